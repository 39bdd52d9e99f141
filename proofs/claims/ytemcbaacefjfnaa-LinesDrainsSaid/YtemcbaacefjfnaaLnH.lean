/- Next of package lines. -/
import Derived.Test.YtemcbaacefjfnaaLnG
set_option linter.unusedVariables false
set_option linter.unusedSimpArgs false
namespace Go.Proofs.Ytemcbaacefjfnaa
open Go.RowKit Go.Proofs.YtemcbaacefjfnaaW.PrintWords Go.Proofs.YtemcbaacefjfnaaW.PrintLast

theorem m_take (g : Nat) (w : World) : (method 204 63 (.pointer (some ⟨g, 0, none⟩)) "abugida/lines.take").run Try.prog w = .ok (43, .pointer (some ⟨g, 0, none⟩)) w := by kernel_rfl
theorem m_put (g : Nat) (w : World) : (method 204 63 (.pointer (some ⟨g, 0, none⟩)) "abugida/lines.put").run Try.prog w = .ok (42, .pointer (some ⟨g, 0, none⟩)) w := by kernel_rfl

/-- a struct that lies in block g is the first of three results -/
theorem res_ctt {fn : Func} {p u v : Tmp} {ty : TypeId} (h : fn.results = #[.cell p ty, .tmp u, .tmp v]) (tmps : Array Value) (w : World) (g : Nat) (t : TypeId) (cs : Array Value) (d : TypeDesc)
    (hp : tmps.getD p undef = .pointer (some ⟨g, 0, none⟩)) (hg : Blk w g cs t)
    (hd : (match d with | .struct _ | .array _ _ => true | _ => false) = true) (hu : Try.prog.underlying ty = some d) (hi : (Try.prog.info? ty).map (·.size) = some cs.size) :
    (results fn tmps).run Try.prog w = .ok (.tuple #[.agg cs, tmps.getD u undef, tmps.getD v undef]) w := by
  have hp' : tmps[p]?.getD undef = .pointer (some ⟨g, 0, none⟩) := by simpa using hp
  simp [results, h, hp', asAddr, run_loadVar_row w g t ty cs (0, 0) d hg hu (by cases d <;> first | rfl | (simp at hd)) hi]

theorem LH.touch {w w' : World} {l q sent : Nat} {s : Option Nat} {n : Int} {vs : Value} {scr : List Tb} {m : List Wt} {t : Nat → Prop} (h : LH w l q s n sent vs scr m) (k : Touch w w' t) (h1 : ¬ t l) (h2 : ¬ t q) (h3 : ∀ g, s = some g → ¬ t g) (h4 : ∀ g, vs.ownBlock = some g → ¬ t g) : LH w' l q s n sent vs scr m :=
  ⟨k.blk h.cell h1, h.row.touch k h4, h.que.touch k h2 h3, h.lq, h.ls, h.vl, h.vq, h.vd⟩
/-- the queue alone has changed -/
theorem LH.que' {w w' : World} {l q sent : Nat} {s s' : Option Nat} {n : Int} {vs : Value} {scr : List Tb} {m m' : List Wt} (h : LH w l q s n sent vs scr m) (k : Touch w w' (fun k => k = q ∨ s = some k)) (hf : Fresh w s s') (hq : QH w' q s' m') : LH w' l q s' n sent vs scr m' := by
  have hl := h.row.lt
  refine ⟨k.blk h.cell ?_, h.row.touch k ?_, hq, h.lq, ?_, h.vl, h.vq, ?_⟩
  · rintro (e | e)
    · exact h.lq e
    · exact h.ls e
  · rintro g hg (e | e)
    · subst e; exact h.vq hg
    · exact h.vd g hg e
  · rcases hf with e | ⟨g, e, e2⟩
    · rw [e]; exact h.ls
    · rw [e]; intro e3; cases e3; have := h.cell.lt; omega
  · intro g hg e3
    rcases hf with e | ⟨g', e, e2⟩
    · exact h.vd g hg (e ▸ e3)
    · rw [e] at e3; cases e3; have := (hl _ hg).2; omega
theorem LH.lt {w : World} {l q sent : Nat} {s : Option Nat} {n : Int} {vs : Value} {scr : List Tb} {m : List Wt} (h : LH w l q s n sent vs scr m) : l < w.heap.size ∧ q < w.heap.size ∧ (∀ g, s = some g → g < w.heap.size) ∧ (∀ g, vs.ownBlock = some g → g < w.heap.size) :=
  ⟨h.cell.lt, h.que.lt.1, h.que.lt.2, fun g hg => (h.row.lt g hg).2⟩
theorem LH.newer {w w' : World} {l q sent : Nat} {s : Option Nat} {n : Int} {vs : Value} {scr : List Tb} {m : List Wt} {B : Nat} {t : Nat → Prop} (h : LH w l q s n sent vs scr m) (k : Touch w w' t) (ht : ∀ i, i < w.heap.size → ¬ t i) : LH w' l q s n sent vs scr m :=
  h.touch k (ht _ h.lt.1) (ht _ h.lt.2.1) (fun g hg => ht _ (h.lt.2.2.1 g hg)) (fun g hg => ht _ (h.lt.2.2.2 g hg))

set_option maxRecDepth 100000 in
set_option maxHeartbeats 2000000 in
theorem next_none (l q sent : Nat) (s : Option Nat) (n : Int) (vs : Value) (scr : List Tb) (w0 : World) (hL : LH w0 l q s n sent vs scr []) :
    Calls Try.prog 20 #[.pointer (some ⟨l, 0, none⟩)] w0 fun e w' => e = .returned (.tuple #[.agg #[.int .i64 0, .int .i64 0, .string ⟨#[]⟩], .int .i64 0, .bool false]) ∧ Below w0.heap.size w0 w' := by
  have c3 : (w0.alloc (.cells #[.int .i64 0, .int .i64 0, .string ⟨#[]⟩] 31)).cell? ⟨l, 3, none⟩ = some (hq q) := (hL.cell.alloc _).cell 3
  have hQ := Lib.hid (hL.que.touch (Touch.alloc w0 (.cells #[.int .i64 0, .int .i64 0, .string ⟨#[]⟩] 31) (fun _ => False)) id (fun _ _ => id))
  have hm := m_take q (w0.alloc (.cells #[.int .i64 0, .int .i64 0, .string ⟨#[]⟩] 31))
  have hB := Blk.new w0 #[.int .i64 0, .int .i64 0, .string ⟨#[]⟩] 31 rfl
  have B := Lib.hid hB
  have T0 := Lib.hid (Touch.alloc w0 (.cells #[.int .i64 0, .int .i64 0, .string ⟨#[]⟩] 31) (fun _ => False))
  clear hB
  clear hL
  go_enter Try.func20, Try.ntmps20
  go_wp2_with fail
  refine (take_none q s _ hQ.out).mono ?_
  rintro e w1 ⟨rfl, a1⟩
  have T1 := Lib.hid (T0.out.trans (Touch.of_below a1))
  have B1 := Lib.hid (B.out.below a1)
  clear a1
  clear hm c3
  go_wp2_with fail
  have N0 : Blk (w1.alloc (.cells #[.int .i64 0, .int .i64 0, .string ⟨#[]⟩, .int .i64 0, .int .i64 0] 72)) w1.heap.size #[.int .i64 0, .int .i64 0, .string ⟨#[]⟩, .int .i64 0, .int .i64 0] 72 := Blk.new _ _ _ rfl
  have M0 : Blk (w1.alloc (.cells #[.int .i64 0, .int .i64 0, .string ⟨#[]⟩, .int .i64 0, .int .i64 0] 72)) w0.heap.size #[.int .i64 0, .int .i64 0, .string ⟨#[]⟩] 31 := B1.out.alloc _
  obtain ⟨b0, hb0⟩ : ∃ b0, b0 = w0.heap.size := ⟨_, rfl⟩
  rw [← hb0] at M0 ⊢
  have T2 := Lib.hid (Touch.alloc w1 (.cells #[.int .i64 0, .int .i64 0, .string ⟨#[]⟩, .int .i64 0, .int .i64 0] 72) (fun _ => False))
  generalize w1.alloc _ = w2 at *
  generalize w1.heap.size = g1 at *
  have R : Hid (Blk ((((w2.setCell ⟨b0, 0, none⟩ (.int .i64 0)).setCell ⟨b0, 1, none⟩ (.int .i64 0)).setCell ⟨b0, 2, none⟩ (.string ⟨#[]⟩)).drew) b0 #[.int .i64 0, .int .i64 0, .string ⟨#[]⟩] 31 ∧ Touch w2 ((((w2.setCell ⟨b0, 0, none⟩ (.int .i64 0)).setCell ⟨b0, 1, none⟩ (.int .i64 0)).setCell ⟨b0, 2, none⟩ (.string ⟨#[]⟩)).drew) (fun k => k = b0)) :=
    Lib.hid ⟨((M0.put 0 _ rfl).put 1 _ rfl).put 2 _ rfl, (((Touch.setCell w2 b0 0 _ (fun k => k = b0) rfl).trans (Touch.setCell _ b0 1 _ _ rfl)).trans (Touch.setCell _ b0 2 _ _ rfl)).trans (Touch.drewN _ 1 _)⟩
  have c0 : w2.cell? ⟨g1, 0, none⟩ = some (.int .i64 0) := N0.cell 0
  have c1 : w2.cell? ⟨g1, 1, none⟩ = some (.int .i64 0) := N0.cell 1
  have c2 : w2.cell? ⟨g1, 2, none⟩ = some (.string ⟨#[]⟩) := N0.cell 2
  have c3 : w2.cell? ⟨g1, 3, none⟩ = some (.int .i64 0) := N0.cell 3
  have m0 : w2.cell? ⟨b0, 0, none⟩ = some (.int .i64 0) := M0.cell 0
  have m1 : w2.cell? ⟨b0, 1, none⟩ = some (.int .i64 0) := M0.cell 1
  have m2 : w2.cell? ⟨b0, 2, none⟩ = some (.string ⟨#[]⟩) := M0.cell 2
  have f0 := M0.frozen 0
  have f1 := M0.frozen 1
  have f2 := M0.frozen 2
  have HB0 := Lib.hid hb0
  clear N0 M0 hb0
  go_region
  clear c0 c1 c2 c3 m0 m1 m2 f0 f1 f2
  generalize World.drew _ = w3 at *
  go_wp2
  obtain ⟨r1, r2⟩ := R.out
  refine bodyPost_ret (res_ctt rfl _ _ b0 31 #[.int .i64 0, .int .i64 0, .string ⟨#[]⟩] _ rfl r1 rfl Try.underlying31 (by kernel_rfl)) rfl ?_
  refine ⟨rfl, ((T1.out.trans T2.out).then r2 ?_).below (Nat.le_refl _) (fun _ h => h.elim)⟩
  intro i hi e
  have := HB0.out
  omega

set_option maxRecDepth 100000 in
set_option maxHeartbeats 2000000 in
theorem next_some (l q sent : Nat) (s : Option Nat) (n : Int) (vs : Value) (scr : List Tb) (m : List Wt) (w0 : World) (hL : LH w0 l q s n sent vs scr m) (h0 : m ≠ []) :
    Calls Try.prog 20 #[.pointer (some ⟨l, 0, none⟩)] w0 fun e w' => ∃ y m', e = .returned (.tuple #[.agg #[.int .i64 y.src, .int .i64 y.dst, .string y.txt], .int .i64 y.due, .bool true]) ∧ LH w' l q s n sent vs scr m' ∧ (y :: m').Perm m ∧ (∀ z, z ∈ m' → leW y z) ∧ Touch w0 w' (fun k => k = q ∨ s = some k) := by
  have c3 : (w0.alloc (.cells #[.int .i64 0, .int .i64 0, .string ⟨#[]⟩] 31)).cell? ⟨l, 3, none⟩ = some (hq q) := (hL.cell.alloc _).cell 3
  have hQ := Lib.hid (hL.que.touch (Touch.alloc w0 (.cells #[.int .i64 0, .int .i64 0, .string ⟨#[]⟩] 31) (fun _ => False)) id (fun _ _ => id))
  have hm := m_take q (w0.alloc (.cells #[.int .i64 0, .int .i64 0, .string ⟨#[]⟩] 31))
  have hB := Blk.new w0 #[.int .i64 0, .int .i64 0, .string ⟨#[]⟩] 31 rfl
  have B := Lib.hid hB
  have T0 := Lib.hid (Touch.alloc w0 (.cells #[.int .i64 0, .int .i64 0, .string ⟨#[]⟩] 31) (fun _ => False))
  clear hB
  have L0 := Lib.hid (hL.touch T0.out id id (fun _ _ => id) (fun _ _ => id))
  have hlt := Lib.hid hL.lt
  have E0 := Lib.hid h0
  clear hL h0
  go_enter Try.func20, Try.ntmps20
  go_wp2_with fail
  refine (take_some q s m _ hQ.out E0.out).mono ?_
  rintro e w1 ⟨y, m', rfl, a1, a2, a3, a4⟩
  have T1 := Lib.hid ((T0.out.weaken (t := fun k => k = q ∨ s = some k) (fun _ _ h => h.elim)).trans a4)
  have L1 := Lib.hid (L0.out.que' a4 (.inl rfl) a1)
  have M1 := Lib.hid (And.intro a2 a3)
  have B1 := Lib.hid (a4.blk B.out (by
    rintro (e | e)
    · have := hlt.out.2.1; omega
    · have := hlt.out.2.2.1 _ e; omega))
  clear a1 a2 a3 a4
  clear hm c3
  go_wp2_with fail
  have N0 : Blk (w1.alloc (.cells #[.int .i64 y.src, .int .i64 y.dst, .string y.txt, .int .i64 y.due, .int .i64 y.num] 72)) w1.heap.size #[.int .i64 y.src, .int .i64 y.dst, .string y.txt, .int .i64 y.due, .int .i64 y.num] 72 := Blk.new _ _ _ rfl
  have M0 : Blk (w1.alloc (.cells #[.int .i64 y.src, .int .i64 y.dst, .string y.txt, .int .i64 y.due, .int .i64 y.num] 72)) w0.heap.size #[.int .i64 0, .int .i64 0, .string ⟨#[]⟩] 31 := B1.out.alloc _
  obtain ⟨b0, hb0⟩ : ∃ b0, b0 = w0.heap.size := ⟨_, rfl⟩
  rw [← hb0] at M0 ⊢
  have T2 := Lib.hid (Touch.alloc w1 (.cells #[.int .i64 y.src, .int .i64 y.dst, .string y.txt, .int .i64 y.due, .int .i64 y.num] 72) (fun _ => False))
  generalize w1.alloc _ = w2 at *
  generalize w1.heap.size = g1 at *
  have R : Hid (Blk ((((w2.setCell ⟨b0, 0, none⟩ (.int .i64 y.src)).setCell ⟨b0, 1, none⟩ (.int .i64 y.dst)).setCell ⟨b0, 2, none⟩ (.string y.txt)).drew) b0 #[.int .i64 y.src, .int .i64 y.dst, .string y.txt] 31 ∧ Touch w2 ((((w2.setCell ⟨b0, 0, none⟩ (.int .i64 y.src)).setCell ⟨b0, 1, none⟩ (.int .i64 y.dst)).setCell ⟨b0, 2, none⟩ (.string y.txt)).drew) (fun k => k = b0)) :=
    Lib.hid ⟨((M0.put 0 _ rfl).put 1 _ rfl).put 2 _ rfl, (((Touch.setCell w2 b0 0 _ (fun k => k = b0) rfl).trans (Touch.setCell _ b0 1 _ _ rfl)).trans (Touch.setCell _ b0 2 _ _ rfl)).trans (Touch.drewN _ 1 _)⟩
  have c0 : w2.cell? ⟨g1, 0, none⟩ = some (.int .i64 y.src) := N0.cell 0
  have c1 : w2.cell? ⟨g1, 1, none⟩ = some (.int .i64 y.dst) := N0.cell 1
  have c2 : w2.cell? ⟨g1, 2, none⟩ = some (.string y.txt) := N0.cell 2
  have c3 : w2.cell? ⟨g1, 3, none⟩ = some (.int .i64 y.due) := N0.cell 3
  have m0 : w2.cell? ⟨b0, 0, none⟩ = some (.int .i64 0) := M0.cell 0
  have m1 : w2.cell? ⟨b0, 1, none⟩ = some (.int .i64 0) := M0.cell 1
  have m2 : w2.cell? ⟨b0, 2, none⟩ = some (.string ⟨#[]⟩) := M0.cell 2
  have f0 := M0.frozen 0
  have f1 := M0.frozen 1
  have f2 := M0.frozen 2
  have HB0 := Lib.hid hb0
  clear N0 M0 hb0
  go_region
  clear c0 c1 c2 c3 m0 m1 m2 f0 f1 f2
  generalize World.drew _ = w3 at *
  go_wp2
  obtain ⟨r1, r2⟩ := R.out
  refine bodyPost_ret (res_ctt rfl _ _ b0 31 #[.int .i64 y.src, .int .i64 y.dst, .string y.txt] _ rfl r1 rfl Try.underlying31 (by kernel_rfl)) rfl ?_
  refine ⟨y, m', rfl, ?_, M1.out.1, M1.out.2, (T1.out.trans (T2.out.weaken (fun _ _ h => h.elim))).then r2 ?_⟩
  · have L2 := L1.out.touch T2.out id id (fun _ _ => id) (fun _ _ => id)
    have h := hlt.out
    have e0 := HB0.out
    refine L2.touch r2 (by omega) (by omega) (fun g hg => ?_) (fun g hg => ?_)
    · have := h.2.2.1 g hg; omega
    · have := h.2.2.2 g hg; omega
  · intro i hi e
    have := HB0.out
    omega

end Go.Proofs.Ytemcbaacefjfnaa
