/- lines.New, Send, Next. -/
import Derived.Test.YtemcbaacefjfnaaLnF
import Derived.Deep.Upon
set_option linter.unusedVariables false
set_option linter.unusedSimpArgs false
namespace Go.Proofs.Ytemcbaacefjfnaa
open Go.RowKit Go.Proofs.YtemcbaacefjfnaaW.PrintWords Go.Proofs.YtemcbaacefjfnaaW.PrintLast

/-- a trouble -/
structure Tb where
  lost : Bool
  cop : Int
  del : Int
def Tb.cells (t : Tb) : List Value := [.bool t.lost, .int .i64 t.cop, .int .i64 t.del]
def flatT (xs : List Tb) : List Value := xs.flatMap Tb.cells
theorem flatT_length (xs : List Tb) : (flatT xs).length = xs.length * 3 := by
  induction xs with
  | nil => rfl
  | cons x xs ih => simp only [flatT, List.flatMap_cons, List.length_append, List.length_cons] at *; rw [ih]; simp [Tb.cells]; omega
theorem flatT_get (xs : List Tb) (i k : Nat) (hi : i < xs.length) (hk : k < 3) : (flatT xs)[i * 3 + k]? = xs[i].cells[k]? := by
  induction xs generalizing i with
  | nil => simp at hi
  | cons x xs ih =>
    have hl : x.cells.length = 3 := rfl
    cases i with
    | zero =>
      simp only [flatT, List.flatMap_cons, Nat.zero_mul, Nat.zero_add, List.getElem_cons_zero]
      rw [List.getElem?_append_left (by omega)]
    | succ i =>
      simp only [flatT, List.flatMap_cons, List.getElem_cons_succ] at ih ⊢
      rw [List.getElem?_append_right (by omega), hl, show (i + 1) * 3 + k - 3 = i * 3 + k by omega]
      exact ih i (by simpa using hi)
theorem flatT_one (xs : List Tb) : ∀ u ∈ flatT xs, u.oneCell' = true := by
  intro u hu
  simp only [flatT, List.mem_flatMap, Tb.cells] at hu
  obtain ⟨t, _, h⟩ := hu
  simp at h
  rcases h with rfl | rfl | rfl <;> rfl

/-- the slice vs holds the troubles scr, from block base on -/
def SR (w : World) (base : Nat) (vs : Value) (scr : List Tb) : Prop :=
  (vs = .slice none 0 0 ∧ scr = []) ∨ ∃ g off c, vs = .slice (some ⟨g, off, none⟩) scr.length c ∧ base ≤ g ∧ g < w.heap.size ∧ scr.length ≤ c ∧ ∀ j u, (flatT scr)[j]? = some u → w.cell? ⟨g, off + j, none⟩ = some u
theorem SR.touch {w w' : World} {base : Nat} {vs : Value} {scr : List Tb} {t : Nat → Prop} (h : SR w base vs scr) (k : Touch w w' t) (h1 : ∀ g, vs.ownBlock = some g → ¬ t g) : SR w' base vs scr := by
  rcases h with h | ⟨g, off, c, rfl, h2, h3, h5, h4⟩
  · exact .inl h
  · refine .inr ⟨g, off, c, rfl, h2, Nat.lt_of_lt_of_le h3 k.size, h5, fun j u hu => ?_⟩
    rw [← h4 j u hu]
    have := k.block g h3 (h1 g rfl)
    simp [World.cell?, this]
theorem SR.lt {w : World} {base : Nat} {vs : Value} {scr : List Tb} (h : SR w base vs scr) : ∀ g, vs.ownBlock = some g → base ≤ g ∧ g < w.heap.size := by
  rcases h with ⟨rfl, _⟩ | ⟨g, off, c, rfl, h2, h3, h5, h4⟩
  · intro g hg; simp [Value.ownBlock] at hg
  · intro g' hg; simp [Value.ownBlock] at hg; subst hg; exact ⟨h2, h3⟩

theorem infoT : (Try.prog.info? 43).map (fun i => (i.zero, i.size, i.bytes)) = some (some (.agg #[.bool false, .int .i64 0, .int .i64 0]), 3, 24) := by kernel_rfl

theorem wpList_append_run {P : Program} {ops : Array Oper} {rest : List Oper} {o : Oper} {a : Act} {w w1 : World} {Q : Exit → Act → World → Prop} (hgd : o.guard = none) (s x : Operand) (t : TypeId) (ho : o.op = .call { callee := .builtin .append, args := #[s, x], argTypes := #[t, t] })
    (p y u : Value) (hs : a.eval s = p) (hx : a.eval x = y) (hr : (Builtin.append_ #[t, t] o.type #[p, y]).run P w = .ok u w1) (h : wpList P ops Q rest (a.put o.dst u) w1) : wpList P ops Q (o :: rest) a w :=
  wpList_plain hgd fun _ hK => by
    unfold Oper.wp execOp
    simp only [ho, resolve, invoke, builtin, Sem.run_bind, Sem.run_pure, Result.andThen_ok, List.map_toArray, List.map_cons, List.map_nil, hs, hx, hr]
    exact hK _ _ h
theorem zc_first (w : World) (c : Nat) (a : Option Addr) : (Builtin.firstCells 3 0 (.slice a 0 c)).run Try.prog w = .ok #[] w := by
  cases a <;> simp [Builtin.firstCells, loadCells, loadCellsFrom]

theorem eq_nil_some (a : Addr) (n c : Nat) (w : World) : (binOp BinOp.eql 22 (.slice (some a) n c) (.slice none 0 0)).run Try.prog w = .ok (.bool false) w := by kernel_rfl
theorem eq_nil_none (w : World) : (binOp BinOp.eql 22 (.slice none 0 0) (.slice none 0 0)).run Try.prog w = .ok (.bool true) w := by kernel_rfl

theorem flatT_ne {scr : List Tb} {j : Nat} {u : Value} (h : (flatT scr)[j]? = some u) : scr ≠ [] := by rintro rfl; simp [flatT] at h
/-- the same of a slice at any address -/
def SRA (w : World) (vs : Value) (scr : List Tb) : Prop :=
  (vs = .slice none 0 0 ∧ scr = []) ∨ ∃ (a : Addr) (c : Nat), vs = .slice (some a) scr.length c ∧ (scr ≠ [] → a.block < w.heap.size) ∧ ∀ j u, (flatT scr)[j]? = some u → w.cell? (a.add j) = some u
theorem SR.sra {w : World} {b : Nat} {vs : Value} {scr : List Tb} (h : SR w b vs scr) : SRA w vs scr := by
  rcases h with h | ⟨g, off, c, rfl, h2, h3, h5, h4⟩
  · exact .inl h
  · refine .inr ⟨_, c, rfl, fun _ => h3, fun j u hu => ?_⟩
    have e : (⟨g, off, none⟩ : Addr).add j = ⟨g, off + j, none⟩ := by unfold Addr.add; split <;> simp_all
    rw [e]
    exact h4 j u hu
theorem SRA.touch {w w' : World} {vs : Value} {scr : List Tb} {t : Nat → Prop} (h : SRA w vs scr) (k : Touch w w' t) (h1 : ∀ g, vs.ownBlock = some g → ¬ t g) : SRA w' vs scr := by
  rcases h with h | ⟨a, c, rfl, h3, h4⟩
  · exact .inl h
  · refine .inr ⟨a, c, rfl, fun e => Nat.lt_of_lt_of_le (h3 e) k.size, fun j u hu => ?_⟩
    rw [← h4 j u hu]
    have hb : (a.add j).block = a.block := by unfold Addr.add; split <;> rfl
    have := k.block a.block (h3 (flatT_ne hu)) (h1 _ rfl)
    simp [World.cell?, hb, this]

set_option maxRecDepth 100000 in
set_option maxHeartbeats 2000000 in
theorem clone_sra (vs : Value) (scr : List Tb) (w0 : World) (hS : SRA w0 vs scr) (hf : scr.length ≤ 1000) :
    Calls Try.prog 22 #[vs] w0 fun e w' => ∃ v', e = .returned v' ∧ SR w' w0.heap.size v' scr ∧ Below w0.heap.size w0 w' := by
  rcases hS with ⟨rfl, rfl⟩ | ⟨a, c, rfl, h3, h4⟩
  · go_enter Try.func22, Try.ntmps22
    have h := eq_nil_none w0
    go_wp2
    go_ret
    exact ⟨_, rfl, .inl ⟨rfl, rfl⟩, Below.refl _ _⟩
  · have H4 := Lib.hid h4
    clear h4
    have h := eq_nil_some a scr.length c w0
    go_enter Try.func22, Try.ntmps22
    have B1 := balloc (Below.refl w0.heap.size w0) (.cells #[] 43)
    have hsrc : Src Try.prog 3 22 (.slice (some a) scr.length c) scr.length (flatT scr) (w0.alloc (.cells #[] 43)) := by
      refine Src.ofSlice _ Try.underlying22 _ _ _ _ (flatT_length scr) ?_ (flatT_one scr)
      intro j u hu
      rw [← H4.out j u hu]
      have hb : (a.add j).block = a.block := by unfold Addr.add; split <;> rfl
      have := Below.heap_alloc w0 (.cells #[] 43) a.block (h3 (flatT_ne hu))
      simp [World.cell?, hb, this]
    obtain ⟨i, hi, hz, hs, hby⟩ := info_parts infoT
    rw [← hs] at hsrc
    by_cases hn : scr = []
    · subst hn
      have hr := run_append_nothing (P := Try.prog) (w0.alloc (.cells #[] 43)) 22 22 22 43 i Try.underlying22 hi (some ⟨w0.heap.size, 0, none⟩) 0 0 (Nat.le_refl _) _ hsrc
      simp only [List.length_nil] at hr h ⊢
      clear hsrc H4
      go_wp2_with (at_builtin; refine wpList_append_run rfl _ _ 22 rfl _ _ _ rfl rfl hr ?_)
      go_ret
      exact ⟨_, rfl, .inr ⟨w0.heap.size, 0, 0, rfl, Nat.le_refl _, by simp, by simp, by intro j u hu; simp [flatT] at hu⟩, B1⟩
    · have hpos : 0 < scr.length := List.length_pos_iff.2 hn
      have hr := run_append_grow_src (P := Try.prog) (w0.alloc (.cells #[] 43)) 22 22 22 43 i _ Try.underlying22 hi hz (some ⟨w0.heap.size, 0, none⟩) 0 0 [] (by rw [hs]; exact zc_first _ _ _) _ scr.length (flatT scr) hsrc (by omega) (by omega) (by rw [hby]; exact growslice_fits (by omega) (by omega))
      simp only [Nat.zero_add, List.nil_append] at hr
      have hgr := grownCap_ge (w0.alloc (.cells #[] 43)) scr.length 0 43
      generalize grownCap (w0.alloc (.cells #[] 43)) scr.length 0 43 = cc at *
      generalize hZ : Builtin.zeroCells (Value.cells (.agg #[.bool false, .int .i64 0, .int .i64 0])) (cc - scr.length) = Z at *
      have es : (w0.alloc (.cells #[] 43)).heap.size = w0.heap.size + 1 := by simp
      have fin : SR ((w0.alloc (.cells #[] 43)).alloc (.cells ((flatT scr).toArray ++ Z) 43)).drew w0.heap.size (.slice (some ⟨w0.heap.size + 1, 0, none⟩) scr.length cc) scr := by
        refine .inr ⟨_, 0, cc, rfl, by simp, by simp, hgr, ?_⟩
        intro j u hu
        have hb := Blk.new (w0.alloc (.cells #[] 43)).drew ((flatT scr).toArray ++ Z) 43 rfl
        have := hb.cell (0 + j)
        rw [show w0.heap.size + 1 = (w0.alloc (.cells #[] 43)).drew.heap.size from es.symm]
        refine Eq.trans this ?_
        have hj : j < (flatT scr).length := (List.getElem?_eq_some_iff.1 hu).1
        rw [Nat.zero_add, Array.getElem?_append_left (by simpa using hj)]
        simpa using hu
      have B2 := bdrew (balloc B1 (.cells ((flatT scr).toArray ++ Z) 43))
      have R := Lib.hid (And.intro fin B2)
      clear fin B2 B1 hsrc H4 hZ es
      go_wp2_with (at_builtin; refine wpList_append_run rfl _ _ 22 rfl _ _ _ rfl rfl hr ?_)
      go_ret
      exact ⟨_, rfl, R.out⟩

/-- lines that carry messages: its struct lies in block l, its queue in block q, the queue's row in block s -/
structure LH (w : World) (l q : Nat) (s : Option Nat) (n : Int) (sent : Nat) (vs : Value) (scr : List Tb) (m : List Wt) : Prop where
  cell : Blk w l #[.int .i64 n, .int .i64 sent, vs, hq q] 59
  row : SR w 0 vs scr
  que : QH w q s m
  lq : l ≠ q
  ls : s ≠ some l
  vl : vs.ownBlock ≠ some l
  vq : vs.ownBlock ≠ some q
  vd : ∀ g, vs.ownBlock = some g → s ≠ some g

theorem SR.weaken {w : World} {base : Nat} {vs : Value} {scr : List Tb} (h : SR w base vs scr) : SR w 0 vs scr := by
  rcases h with h | ⟨g, off, c, rfl, h2, h3, h5, h4⟩
  · exact .inl h
  · exact .inr ⟨g, off, c, rfl, Nat.zero_le _, h3, h5, h4⟩

theorem SR.shape {w : World} {base : Nat} {vs : Value} {scr : List Tb} (h : SR w base vs scr) : ∃ ao k c, vs = .slice ao k c := by
  rcases h with ⟨rfl, _⟩ | ⟨g, off, c, rfl, _⟩
  · exact ⟨_, _, _, rfl⟩
  · exact ⟨_, _, _, rfl⟩

/-- the lines as they are made -/
theorem LH.made {w : World} {b : Nat} {n : Int} {vs : Value} {scr : List Tb} (hb : b ≤ w.heap.size) (h : SR w b vs scr) :
    LH (((w.alloc (.cells #[] 72)).alloc (.cells #[.slice (some ⟨w.heap.size, 0, none⟩) 0 0] 65)).alloc (.cells #[.int .i64 n, .int .i64 (0 : Nat), vs, hq (w.heap.size + 1)] 59)) (w.heap.size + 1 + 1) (w.heap.size + 1) (some w.heap.size) n 0 vs scr [] := by
  have hl := h.lt
  refine ⟨Blk.new _ _ _ (by simp), (h.touch ((Touch.alloc _ _ (fun _ => False)).trans ((Touch.alloc _ _ _).trans (Touch.alloc _ _ _))) (fun _ _ => id)).weaken, ⟨[], ⟨_, rfl, (Blk.new _ _ _ (by simp)).alloc _, ⟨rfl, .inr ⟨w.heap.size, 0, #[], rfl, Nat.zero_le _, ((Blk.new w _ _ rfl).alloc _).alloc _, by simp, by simp [maxLen], rfl, rfl⟩⟩, by simp [Value.ownBlock], by simp⟩, by intro k h0 h1; simp at h1, List.Perm.refl _⟩, by omega, ?_, ?_, ?_, ?_⟩
  · simp; omega
  · intro e; have := (hl _ e).2; omega
  · intro e; have := (hl _ e).2; omega
  · intro g hg e
    have := (hl _ hg).2
    simp at e
    omega

set_option maxRecDepth 100000 in
set_option maxHeartbeats 2000000 in
theorem new_sra (n : Int) (vs : Value) (scr : List Tb) (w0 : World) (hS : SRA w0 vs scr) (hf : scr.length ≤ 1000) :
    Calls Try.prog 11 #[.int .i64 n, vs] w0 fun e w' => ∃ l q s v', e = .returned (.pointer (some ⟨l, 0, none⟩)) ∧ LH w' l q s n 0 v' scr [] ∧ Below w0.heap.size w0 w' ∧ w0.heap.size ≤ l ∧ w0.heap.size ≤ q ∧ (∀ g, s = some g → w0.heap.size ≤ g) ∧ (∀ g, v'.ownBlock = some g → w0.heap.size ≤ g) := by
  have S := Lib.hid hS
  clear hS
  go_enter Try.func11, Try.ntmps11
  go_wp2_with fail
  refine (clone_sra vs scr w0 S.out hf).mono ?_
  rintro e w1 ⟨v', rfl, a1, a2⟩
  obtain ⟨ao, k, c, rfl⟩ := a1.shape
  have hm := LH.made (n := n) a2.size a1
  have R := Lib.hid (And.intro hm (And.intro a1 a2))
  clear a1 a2 hm
  go_wp2
  go_ret
  obtain ⟨b1, b2, b3⟩ := R.out
  exact ⟨_, _, _, _, rfl, b1, ((balloc (balloc (balloc b3 _) _) _)), by have := b3.size; omega, by have := b3.size; omega, by intro g hg; cases hg; exact b3.size, fun g hg => (b2.lt g hg).1⟩

end Go.Proofs.Ytemcbaacefjfnaa
