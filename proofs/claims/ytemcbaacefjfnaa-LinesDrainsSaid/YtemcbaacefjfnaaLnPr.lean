/- The program's lines and the reference's at once. -/
import Derived.Test.YtemcbaacefjfnaaLnRfN
set_option linter.unusedVariables false
set_option linter.unusedSimpArgs false
namespace Go.Proofs.Ytemcbaacefjfnaa
open Go.RowKit Go.Proofs.YtemcbaacefjfnaaW.PrintWords Go.Proofs.YtemcbaacefjfnaaW.PrintLast

set_option maxRecDepth 100000 in
set_option maxHeartbeats 2000000 in
theorem rnext_none (l sent : Nat) (n : Int) (vs vw : Value) (scr : List Tb) (w0 : World) (hL : RF w0 l n sent vs vw scr []) :
    Calls Try.prog 23 #[.pointer (some ⟨l, 0, none⟩)] w0 fun e w' => e = .returned (.tuple #[.agg #[.int .i64 0, .int .i64 0, .string ⟨#[]⟩], .int .i64 0, .bool false]) ∧ Below w0.heap.size w0 w' := by
  obtain ⟨ao, c, hv⟩ : ∃ ao c, vw = .slice ao 0 c := by
    rcases hL.wait.2 with ⟨e, _⟩ | ⟨g, cap, cur, e, _⟩
    · exact ⟨_, _, e⟩
    · exact ⟨_, _, e⟩
  have c3 : (w0.alloc (.cells #[.int .i64 0, .int .i64 0, .string ⟨#[]⟩] 31)).cell? ⟨l, 3, none⟩ = some (.slice ao 0 c) := by rw [← hv]; exact (hL.cell.alloc _).cell 3
  have hB := Blk.new w0 #[.int .i64 0, .int .i64 0, .string ⟨#[]⟩] 31 rfl
  have B := Lib.hid hB
  have r0 : (w0.alloc (.cells #[.int .i64 0, .int .i64 0, .string ⟨#[]⟩] 31)).cell? ⟨w0.heap.size, 0, none⟩ = some (.int .i64 0) := hB.cell 0
  have r1 : (w0.alloc (.cells #[.int .i64 0, .int .i64 0, .string ⟨#[]⟩] 31)).cell? ⟨w0.heap.size, 1, none⟩ = some (.int .i64 0) := hB.cell 1
  have r2 : (w0.alloc (.cells #[.int .i64 0, .int .i64 0, .string ⟨#[]⟩] 31)).cell? ⟨w0.heap.size, 2, none⟩ = some (.string ⟨#[]⟩) := hB.cell 2
  have f0 := hB.frozen 0
  have f1 := hB.frozen 1
  have f2 := hB.frozen 2
  have T0 := Lib.hid (balloc (Below.refl w0.heap.size w0) (.cells #[.int .i64 0, .int .i64 0, .string ⟨#[]⟩] 31))
  clear hB hL hv
  go_enter Try.func23, Try.ntmps23
  go_wp2_with fail
  first
  | (refine bodyPost_ret (res_ctt rfl _ _ w0.heap.size 31 #[.int .i64 0, .int .i64 0, .string ⟨#[]⟩] _ rfl B.out rfl Try.underlying31 (by kernel_rfl)) rfl ?_
     exact ⟨rfl, T0.out⟩)
  | (have B2 := ((B.out.put 0 (.int .i64 0) rfl).put 1 (.int .i64 0) rfl).put 2 (.string ⟨#[]⟩) rfl
     refine bodyPost_ret (res_ctt rfl _ _ w0.heap.size 31 #[.int .i64 0, .int .i64 0, .string ⟨#[]⟩] _ rfl B2 rfl Try.underlying31 (by kernel_rfl)) rfl ?_
     exact ⟨rfl, bset (bset (bset T0.out (Nat.le_refl _) 0 _) (Nat.le_refl _) 1 _) (Nat.le_refl _) 2 _⟩)

def PR (w : World) (A : Nat → Prop) (l : Nat) (n1 : Int) (k1 : Nat) (c1 : List Tb) (m1 : List Wt) (lr : Nat) (n2 : Int) (k2 : Nat) (c2 : List Tb) (m2 : List Wt) : Prop :=
  Good m1 k1 ∧ (Good m2 k2 ∧ Ord m2) ∧ ∃ q s v vs vw, LH w l q s n1 k1 v c1 m1 ∧ RF w lr n2 k2 vs vw c2 m2 ∧ (∀ i, own4 l q s v i → ¬ A i ∧ ¬ ownR lr vs vw i) ∧ (∀ i, ownR lr vs vw i → ¬ A i)
section
variable {w w' : World} {A A' : Nat → Prop} {l lr k1 k2 : Nat} {n1 n2 : Int} {c1 c2 : List Tb} {m1 m2 : List Wt} {t : Nat → Prop}
theorem PR.touch (h : PR w A l n1 k1 c1 m1 lr n2 k2 c2 m2) (k : Touch w w' t) (ht : ∀ i, ¬ A i → i < w.heap.size → ¬ t i) : PR w' A l n1 k1 c1 m1 lr n2 k2 c2 m2 := by
  obtain ⟨g1, g2, q, s, v, vs, vw, h1, h2, d1, d2⟩ := h
  exact ⟨g1, g2, q, s, v, vs, vw, h1.touch4 k (fun i hi => ht i (d1 i hi).1 (h1.lt4 hi)), h2.touch k (fun i hi => ht i (d2 i hi) (h2.lt hi)), d1, d2⟩
theorem PR.quiet (h : PR w A l n1 k1 c1 m1 lr n2 k2 c2 m2) (k : Below w.heap.size w w') : PR w' A l n1 k1 c1 m1 lr n2 k2 c2 m2 :=
  h.touch (Touch.of_below (s := fun _ => False) k) (fun _ _ _ => id)
theorem PR.mono (h : PR w A l n1 k1 c1 m1 lr n2 k2 c2 m2) (hA : ∀ i, i < w.heap.size → A' i → A i) : PR w A' l n1 k1 c1 m1 lr n2 k2 c2 m2 := by
  obtain ⟨g1, g2, q, s, v, vs, vw, h1, h2, d1, d2⟩ := h
  exact ⟨g1, g2, q, s, v, vs, vw, h1, h2, fun i hi => ⟨fun e => (d1 i hi).1 (hA i (h1.lt4 hi) e), (d1 i hi).2⟩, fun i hi e => d2 i hi (hA i (h2.lt hi) e)⟩
end

theorem pr_new (A : Nat → Prop) (l : Nat) (n1 : Int) (k1 : Nat) (c1 : List Tb) (m1 : List Wt) (n : Int) (vs : Value) (scr : List Tb) (w0 : World) (hL : LW w0 A l n1 k1 c1 m1) (hS : SRA w0 vs scr) (hf : scr.length ≤ 1000) (hB : ∀ i, A i → i < w0.heap.size) :
    Calls Try.prog 13 #[.int .i64 n, vs] w0 fun e w' => ∃ lr, e = .returned (.pointer (some ⟨lr, 0, none⟩)) ∧ PR w' A l n1 k1 c1 m1 lr n 0 scr [] ∧ Below w0.heap.size w0 w' := by
  obtain ⟨g1, q1, s1, v1, h1, a1, a2, a3, a4⟩ := hL
  refine (rnew_any n vs scr w0 hS hf).mono ?_
  rintro e w' ⟨lr, vs', vw, rfl, b1, b2, b3⟩
  refine ⟨lr, rfl, ⟨g1, ⟨Good.nil 0, Ord.nil⟩, q1, s1, v1, vs', vw, h1.touch4 (Touch.of_below (s := fun _ => False) b3) (fun _ _ => id), b1, ?_, ?_⟩, b3⟩
  · intro i hi
    refine ⟨?_, fun h => ?_⟩
    · rcases hi with rfl | rfl | e | e
      · exact a1
      · exact a2
      · exact a3 _ e
      · exact a4 _ e
    · have := b2 i h; have := h1.lt4 hi; omega
  · intro i hi h
    have := b2 i hi; have := hB i h; omega

theorem pr_send (A : Nat → Prop) (l : Nat) (n1 : Int) (k1 : Nat) (c1 : List Tb) (m1 : List Wt) (lr : Nat) (n2 : Int) (k2 : Nat) (c2 : List Tb) (m2 : List Wt) (due a b : Int) (txt : ByteArray) (w0 : World) (hL : PR w0 A l n1 k1 c1 m1 lr n2 k2 c2 m2) (hs : k1 < 100000) (hm : m1.length < 900000) (hf : c1.length ≤ 1000) (hB : ∀ i, A i → i < w0.heap.size) :
    Calls Try.prog 15 #[.pointer (some ⟨l, 0, none⟩), .int .i64 due, .agg #[.int .i64 a, .int .i64 b, .string txt]] w0 fun e w' => e = .returned (.tuple #[]) ∧ PR w' A l n1 (k1 + 1) c1 (m1 ++ sendL n1 k1 c1 due a b txt) lr n2 k2 c2 m2 ∧ Touch w0 w' (fun k => ¬ A k) := by
  obtain ⟨g1, g2, q1, s1, v1, vs, vw, h1, h2, d1, d2⟩ := hL
  refine (send_any l q1 k1 s1 n1 v1 c1 m1 due a b txt w0 h1 hs hm hf).mono ?_
  rintro e w' ⟨rfl, s', e1, e2, e3⟩
  refine ⟨rfl, ⟨g1.send n1 c1 due a b txt, g2, q1, s', v1, vs, vw, e1, h2.touch e3 ?_, ?_, d2⟩, e3.weaken ?_⟩
  · rintro i hi (rfl | rfl | e)
    · exact (d1 _ (.inl rfl)).2 hi
    · exact (d1 _ (.inr (.inl rfl))).2 hi
    · exact (d1 _ (.inr (.inr (.inl e)))).2 hi
  · rintro i (rfl | rfl | e | e)
    · exact d1 _ (.inl rfl)
    · exact d1 _ (.inr (.inl rfl))
    · rcases e2 with e2 | ⟨g, e2, e4⟩
      · exact d1 _ (.inr (.inr (.inl (e2 ▸ e))))
      · rw [e] at e2; cases e2
        exact ⟨fun h => by have := hB _ h; omega, fun h => by have := h2.lt h; omega⟩
    · exact d1 _ (.inr (.inr (.inr e)))
  · rintro i hi (rfl | rfl | e)
    · exact (d1 _ (.inl rfl)).1
    · exact (d1 _ (.inr (.inl rfl))).1
    · exact (d1 _ (.inr (.inr (.inl e)))).1

theorem pr_rsend (A : Nat → Prop) (l : Nat) (n1 : Int) (k1 : Nat) (c1 : List Tb) (m1 : List Wt) (lr : Nat) (n2 : Int) (k2 : Nat) (c2 : List Tb) (m2 : List Wt) (due a b : Int) (txt : ByteArray) (w0 : World) (hL : PR w0 A l n1 k1 c1 m1 lr n2 k2 c2 m2) (hs : k2 < 100000) (hm : m2.length < 900000) (hf : c2.length ≤ 1000) (hB : ∀ i, A i → i < w0.heap.size) :
    Calls Try.prog 16 #[.pointer (some ⟨lr, 0, none⟩), .int .i64 due, .agg #[.int .i64 a, .int .i64 b, .string txt]] w0 fun e w' => e = .returned (.tuple #[]) ∧ PR w' A l n1 k1 c1 m1 lr n2 (k2 + 1) c2 (m2 ++ sendL n2 k2 c2 due a b txt) ∧ Touch w0 w' (fun k => ¬ A k) := by
  obtain ⟨g1, g2, q1, s1, v1, vs, vw, h1, h2, d1, d2⟩ := hL
  refine (rsend_any lr k2 n2 vs vw c2 m2 due a b txt w0 h2 hs hm hf).mono ?_
  rintro e w' ⟨rfl, vw', e1, e2, e3⟩
  refine ⟨rfl, ⟨g1, ⟨g2.1.send n2 c2 due a b txt, g2.2.send g2.1 n2 c2 due a b txt⟩, q1, s1, v1, vs, vw', h1.touch4 e3 ?_, e1, ?_, ?_⟩, e3.weaken ?_⟩
  · rintro i hi (rfl | e)
    · exact (d1 _ hi).2 (.inl rfl)
    · exact (d1 _ hi).2 (.inr (.inr e))
  · intro i hi
    refine ⟨(d1 i hi).1, ?_⟩
    rintro (rfl | e | e)
    · exact (d1 _ hi).2 (.inl rfl)
    · exact (d1 _ hi).2 (.inr (.inl e))
    · rcases e2 with e2 | ⟨g, e2, e4⟩
      · exact (d1 _ hi).2 (.inr (.inr (e2 ▸ e)))
      · rw [e] at e2; cases e2
        have := h1.lt4 hi; omega
  · rintro i (rfl | e | e)
    · exact d2 _ (.inl rfl)
    · exact d2 _ (.inr (.inl e))
    · rcases e2 with e2 | ⟨g, e2, e4⟩
      · exact d2 _ (.inr (.inr (e2 ▸ e)))
      · rw [e] at e2; cases e2
        intro h; have := hB _ h; omega
  · rintro i hi (rfl | e)
    · exact d2 _ (.inl rfl)
    · exact d2 _ (.inr (.inr e))

theorem pr_next (A : Nat → Prop) (l : Nat) (n1 : Int) (k1 : Nat) (c1 : List Tb) (m1 : List Wt) (lr : Nat) (n2 : Int) (k2 : Nat) (c2 : List Tb) (m2 : List Wt) (w0 : World) (hL : PR w0 A l n1 k1 c1 m1 lr n2 k2 c2 m2) :
    Calls Try.prog 20 #[.pointer (some ⟨l, 0, none⟩)] w0 fun e w' => e = .returned (.tuple #[.agg #[.int .i64 (nsrc m1), .int .i64 (ndst m1), .string (ntxt m1)], .int .i64 (ndue m1), .bool (!m1.isEmpty)]) ∧ PR w' A l n1 k1 c1 (nrest m1) lr n2 k2 c2 m2 ∧ Touch w0 w' (fun k => ¬ A k) := by
  have hP := hL
  obtain ⟨g1, g2, q1, s1, v1, vs, vw, h1, h2, d1, d2⟩ := hL
  cases m1 with
  | nil => exact (next_none l q1 k1 s1 n1 v1 c1 w0 h1).mono fun e w' ⟨x1, x2⟩ => ⟨x1, hP.quiet x2, Touch.of_below x2⟩
  | cons z zs =>
    refine (next_best l q1 k1 s1 n1 v1 c1 _ w0 h1 g1 (by simp)).mono ?_
    rintro e w' ⟨rfl, e1, e2⟩
    refine ⟨rfl, ⟨g1.erase _, g2, q1, s1, v1, vs, vw, e1, h2.touch e2 ?_, d1, d2⟩, e2.weaken ?_⟩
    · rintro i hi (rfl | e)
      · exact (d1 _ (.inr (.inl rfl))).2 hi
      · exact (d1 _ (.inr (.inr (.inl e)))).2 hi
    · rintro i hi (rfl | e)
      · exact (d1 _ (.inr (.inl rfl))).1
      · exact (d1 _ (.inr (.inr (.inl e)))).1

theorem pr_rnext (A : Nat → Prop) (l : Nat) (n1 : Int) (k1 : Nat) (c1 : List Tb) (m1 : List Wt) (lr : Nat) (n2 : Int) (k2 : Nat) (c2 : List Tb) (m2 : List Wt) (w0 : World) (hL : PR w0 A l n1 k1 c1 m1 lr n2 k2 c2 m2) (hm : m2.length < 900000) (hB : ∀ i, A i → i < w0.heap.size) :
    Calls Try.prog 23 #[.pointer (some ⟨lr, 0, none⟩)] w0 fun e w' => e = .returned (.tuple #[.agg #[.int .i64 (nsrc m2), .int .i64 (ndst m2), .string (ntxt m2)], .int .i64 (ndue m2), .bool (!m2.isEmpty)]) ∧ PR w' A l n1 k1 c1 m1 lr n2 k2 c2 (nrest m2) ∧ Touch w0 w' (fun k => ¬ A k) := by
  have hP := hL
  obtain ⟨g1, g2, q1, s1, v1, vs, vw, h1, h2, d1, d2⟩ := hL
  cases m2 with
  | nil => exact (rnext_none lr k2 n2 vs vw c2 w0 h2).mono fun e w' ⟨x1, x2⟩ => ⟨x1, hP.quiet x2, Touch.of_below x2⟩
  | cons z zs =>
    obtain ⟨f1, f2, f3⟩ := first_best g2.1.1 g2.2 (by simp)
    refine (rnext_some lr k2 n2 vs vw c2 _ w0 h2 (by simp) hm).mono ?_
    rintro e w' ⟨y, hy, rfl, vw', e1, e2, e3⟩
    rw [f2] at hy
    rw [f3] at e1
    subst hy
    refine ⟨rfl, ⟨g1, ⟨g2.1.erase _, g2.2.erase _⟩, q1, s1, v1, vs, vw', h1.touch4 e3 ?_, e1, ?_, ?_⟩, e3.weaken ?_⟩
    · rintro i hi rfl
      exact (d1 _ hi).2 (.inl rfl)
    · intro i hi
      refine ⟨(d1 i hi).1, ?_⟩
      rintro (rfl | e | e)
      · exact (d1 _ hi).2 (.inl rfl)
      · exact (d1 _ hi).2 (.inr (.inl e))
      · have := e2 _ e; have := h1.lt4 hi; omega
    · rintro i (rfl | e | e)
      · exact d2 _ (.inl rfl)
      · exact d2 _ (.inr (.inl e))
      · intro h; have := e2 _ e; have := hB _ h; omega
    · rintro i hi rfl
      exact d2 _ (.inl rfl)

set_option maxRecDepth 100000 in
set_option maxHeartbeats 2000000 in
theorem same_any (A : Nat → Prop) (l lr k : Nat) (n : Int) (c : List Tb) (m : List Wt) (w0 : World) (hL : PR w0 A l n k c m lr n k c m) (hm : m.length < 900000) (hB : ∀ i, A i → i < w0.heap.size) :
    Calls Try.prog 14 #[.pointer (some ⟨l, 0, none⟩), .pointer (some ⟨lr, 0, none⟩)] w0 fun e w' => e = .returned (.bool true) ∧ PR w' A l n k c (nrest m) lr n k c (nrest m) ∧ Touch w0 w' (fun k => ¬ A k) := by
  have L := Lib.hid hL
  have HB := Lib.hid hB
  clear hL hB
  go_enter Try.func14, Try.ntmps14
  go_wp2_with fail
  refine (pr_next A l n k c m lr n k c m _ L.out).mono ?_
  rintro e w5 ⟨rfl, a1, a2⟩
  have L2 := Lib.hid ((a1.mono (A' := fun i => A i ∨ i = w5.heap.size) (by rintro i hi (h | h); exact h; exact absurd hi (by omega))).quiet (balloc (Below.refl _ w5) (.cells #[.int .i64 (nsrc m), .int .i64 (ndst m), .string (ntxt m)] 31)))
  have T2 := Lib.hid (a2.trans (Touch.alloc w5 (.cells #[.int .i64 (nsrc m), .int .i64 (ndst m), .string (ntxt m)] 31) _))
  have C2 := Lib.hid (Blk.new w5 #[.int .i64 (nsrc m), .int .i64 (ndst m), .string (ntxt m)] 31 rfl)
  have S2 := Lib.hid (show w0.heap.size ≤ w5.heap.size from a2.size)
  clear a1 a2 L
  go_wp2_with fail
  generalize hw6 : w5.alloc (.cells #[.int .i64 (nsrc m), .int .i64 (ndst m), .string (ntxt m)] 31) = w6 at *
  obtain ⟨g5, hg5⟩ : ∃ g5, g5 = w5.heap.size := ⟨_, rfl⟩
  rw [← hg5] at C2 L2 S2 ⊢
  clear hw6 hg5
  refine (pr_rnext _ l n k c (nrest m) lr n k c m _ L2.out hm (by rintro i (h | rfl); exact Nat.lt_of_lt_of_le (HB.out i h) T2.out.size; exact C2.out.lt)).mono ?_
  rintro e w7 ⟨rfl, a1, a2⟩
  have C7 := (a2.blk C2.out (fun h => h (.inr rfl))).alloc (.cells #[.int .i64 (nsrc m), .int .i64 (ndst m), .string (ntxt m)] 31)
  have D7 := Blk.new w7 #[.int .i64 (nsrc m), .int .i64 (ndst m), .string (ntxt m)] 31 rfl
  have c0 : (w7.alloc (.cells #[.int .i64 (nsrc m), .int .i64 (ndst m), .string (ntxt m)] 31)).cell? ⟨g5, 0, none⟩ = some (.int .i64 (nsrc m)) := C7.cell 0
  have c1 : (w7.alloc (.cells #[.int .i64 (nsrc m), .int .i64 (ndst m), .string (ntxt m)] 31)).cell? ⟨g5, 1, none⟩ = some (.int .i64 (ndst m)) := C7.cell 1
  have c2 : (w7.alloc (.cells #[.int .i64 (nsrc m), .int .i64 (ndst m), .string (ntxt m)] 31)).cell? ⟨g5, 2, none⟩ = some (.string (ntxt m)) := C7.cell 2
  have d0 : (w7.alloc (.cells #[.int .i64 (nsrc m), .int .i64 (ndst m), .string (ntxt m)] 31)).cell? ⟨w7.heap.size, 0, none⟩ = some (.int .i64 (nsrc m)) := D7.cell 0
  have d1 : (w7.alloc (.cells #[.int .i64 (nsrc m), .int .i64 (ndst m), .string (ntxt m)] 31)).cell? ⟨w7.heap.size, 1, none⟩ = some (.int .i64 (ndst m)) := D7.cell 1
  have d2 : (w7.alloc (.cells #[.int .i64 (nsrc m), .int .i64 (ndst m), .string (ntxt m)] 31)).cell? ⟨w7.heap.size, 2, none⟩ = some (.string (ntxt m)) := D7.cell 2
  have L3 := Lib.hid ((a1.quiet (balloc (Below.refl _ w7) (.cells #[.int .i64 (nsrc m), .int .i64 (ndst m), .string (ntxt m)] 31))).mono (A' := A) (fun i _ h => .inl h))
  have T3 := Lib.hid ((T2.out.then (t := fun k => ¬ (A k ∨ k = g5)) a2 (by intro i hi h e; exact h (.inl e))).trans (Touch.alloc w7 (.cells #[.int .i64 (nsrc m), .int .i64 (ndst m), .string (ntxt m)] 31) _))
  clear a1 a2 L2 T2 C2 C7 D7
  generalize m.isEmpty = em at *
  cases em with
  | true =>
    go_wp2_with fail
    go_ret
    exact ⟨rfl, L3.out, T3.out⟩
  | false =>
    go_wp2_with fail
    go_ret
    exact ⟨rfl, L3.out, T3.out⟩

end Go.Proofs.Ytemcbaacefjfnaa
