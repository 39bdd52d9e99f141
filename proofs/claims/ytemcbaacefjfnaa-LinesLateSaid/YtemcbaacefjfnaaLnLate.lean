/- The walk of LinesLate. -/
import Derived.Test.YtemcbaacefjfnaaLnM
set_option linter.unusedVariables false
set_option linter.unusedSimpArgs false
namespace Go.Proofs.Ytemcbaacefjfnaa
open Go.RowKit Go.Proofs.YtemcbaacefjfnaaW.PrintWords Go.Proofs.YtemcbaacefjfnaaW.PrintLast

theorem late_bounds (t : Tb) (due : Int) : ∀ z, z ∈ sendL 2 0 [t] due 0 1 ⟨#[120]⟩ → 0 ≤ z.due ∧ z.due ≤ 2097160 ∧ (0 ≤ due → due ≤ 1048576 → due ≤ z.due) := by
  intro z hz
  obtain ⟨j, hj, rfl⟩ := sendL_mem hz
  have e : tbAt [t] 0 = t := rfl
  rw [e] at hj ⊢
  have hj9 : j < 9 ∨ j ≥ 9 := by omega
  have hc : copiesOf t ≤ 9 := by unfold copiesOf clampI; omega
  simp only [firstOf, clampI]
  omega
theorem late_len (t : Tb) (due : Int) : (sendL 2 0 [t] due 0 1 ⟨#[120]⟩).length ≤ 9 ∧ (((sendL 2 0 [t] due 0 1 ⟨#[120]⟩).length : Int) == 0) = t.lost := by
  have e : tbAt [t] 0 = t := rfl
  have hc : copiesOf t ≤ 9 ∧ 1 ≤ copiesOf t := by unfold copiesOf clampI; omega
  have n0 : nodeB 2 0 = true := rfl
  have n1 : nodeB 2 1 = true := rfl
  unfold sendL
  rw [e, n0, n1]
  cases t.lost with
  | true => simp
  | false =>
    simp
    omega

set_option maxRecDepth 100000 in
set_option maxHeartbeats 4000000 in
theorem linesLate_walk (due : Int) (lost : Bool) (cop del : Int) (w0 : World) :
    Calls Try.prog 8 #[.int .i64 due, .agg #[.bool lost, .int .i64 cop, .int .i64 del]] w0 fun e w' => e = .returned (.bool true) ∧ Below w0.heap.size w0 w' := by
  obtain ⟨t, ht⟩ : ∃ t : Tb, t = ⟨lost, cop, del⟩ := ⟨_, rfl⟩
  have B0 := Lib.hid (balloc (Below.refl w0.heap.size w0) (.cells #[.bool lost, .int .i64 cop, .int .i64 del] 43))
  have T0 := Lib.hid (Blk.new w0 #[.bool lost, .int .i64 cop, .int .i64 del] 43 rfl)
  have E0 : (w0.alloc (.cells #[.bool lost, .int .i64 cop, .int .i64 del] 43)).heap.size = w0.heap.size + 1 := by simp
  have Z0 : Hid ((w0.alloc (.cells #[.bool lost, .int .i64 cop, .int .i64 del] 43)).heap.size = w0.heap.size + 1) := Lib.hid E0
  clear E0
  go_enter Try.func8, Try.ntmps8
  go_wp2_with fail
  refine (sanity_any _).mono ?_
  rintro e w1 ⟨rfl, b1⟩
  have B1 := Lib.hid (bthen' B0.out b1)
  have T1 := T0.out.below b1
  have Z1 : w0.heap.size + 1 ≤ w1.heap.size := by have h1 := Z0.out; have := b1.size; omega
  have c0 : w1.cell? ⟨w0.heap.size, 0, none⟩ = some (.bool lost) := T1.cell 0
  have c1 : w1.cell? ⟨w0.heap.size, 1, none⟩ = some (.int .i64 cop) := T1.cell 1
  have c2 : w1.cell? ⟨w0.heap.size, 2, none⟩ = some (.int .i64 del) := T1.cell 2
  have S1 : Hid (SR (w1.alloc (.cells #[.bool lost, .int .i64 cop, .int .i64 del] 43)) 0 (.slice (some ⟨w1.heap.size, 0, none⟩) 1 1) [t]) := by
    subst ht
    exact Lib.hid (SR.block (scr := [⟨lost, cop, del⟩]) (Blk.new w1 _ _ rfl))
  have TT := Lib.hid (T1.alloc (.cells #[.bool lost, .int .i64 cop, .int .i64 del] 43))
  have ZZ := Lib.hid (And.intro Z1 (balloc B1.out (.cells #[.bool lost, .int .i64 cop, .int .i64 del] 43)))
  have HT := Lib.hid ht
  clear B0 T0 Z0 b1 T1 Z1 B1 ht
  go_wp2_with fail
  refine (lw_new 2 _ [t] _ S1.out (by simp)).mono ?_
  rintro e w2 ⟨l, rfl, a1, a2⟩
  obtain ⟨A, hA⟩ : ∃ A : Nat → Prop, A = fun i => i < w0.heap.size + 1 := ⟨_, rfl⟩
  have L2 : Hid (LW w2 A l 2 0 [t] []) := Lib.hid (a1.mono (by intro i hi h; subst hA; have := ZZ.out.1; simp; omega))
  have T2 := Lib.hid (TT.out.below a2)
  have H2 := Lib.hid (bthen' ZZ.out.2 a2)
  have Z2 : Hid (w0.heap.size + 1 ≤ w2.heap.size) := Lib.hid (by have h1 := ZZ.out.1; have h2 := a2.size; simp at h2; omega)
  have AT : Hid (A w0.heap.size) := Lib.hid (by subst hA; show w0.heap.size < w0.heap.size + 1; omega)
  have AA : Hid (∀ i, A i → i < w0.heap.size + 1) := Lib.hid (by subst hA; exact fun _ h => h)
  have AB : Hid (∀ i, ¬ A i → w0.heap.size ≤ i) := Lib.hid (by subst hA; intro i h; omega)
  clear a1 a2 S1 TT ZZ c0 c1 c2 hA
  go_wp2_with fail
  refine (told_any _ _).mono ?_
  rintro e w3 ⟨rfl, b1⟩
  have L3 := Lib.hid (L2.out.quiet b1)
  have T3 := Lib.hid (T2.out.below b1)
  have H3 := Lib.hid (bthen' H2.out b1)
  have Z3 : Hid (w0.heap.size + 1 ≤ w3.heap.size) := Lib.hid (Nat.le_trans Z2.out b1.size)
  clear b1 L2 T2 H2 Z2
  go_wp2_with fail
  refine (lw_send A l 0 2 [t] [] due 0 1 _ w3 L3.out (by omega) (by simp) (by simp) (fun i hi => Nat.lt_of_lt_of_le (AA.out i hi) Z3.out)).mono ?_
  rintro e w4 ⟨rfl, d1, d2⟩
  have MB := Lib.hid (late_bounds t due)
  have ML := Lib.hid (late_len t due)
  rw [List.nil_append] at d1
  generalize sendL 2 0 [t] due 0 1 ⟨#[120]⟩ = M at *
  have L4 := Lib.hid d1
  have T4 := Lib.hid (d2.blk T3.out (fun h => h AT.out))
  have H4 := Lib.hid (H3.out.trans (d2.below H3.out.size AB.out))
  clear d1 d2 L3 T3 H3 Z3
  obtain ⟨C, hCM⟩ : ∃ C, C = M.length := ⟨_, rfl⟩
  have hC := ML.out.1
  have hE := ML.out.2
  rw [← hCM] at hC hE
  have HC := Lib.hid hCM
  have HE := Lib.hid hE
  clear hCM hE ML
  go_wp2_with fail
  go_loopw [7, 8] (fun i j wr => ∃ (k : Nat) (m : List Wt), i = .int .i64 k ∧ j = .int .i64 k ∧ k ≤ 9 ∧ Hid (k + m.length = C) ∧ Hid (∀ z, z ∈ m → z ∈ M) ∧ Hid (LW wr A l 2 1 [t] m) ∧ Hid (Below w0.heap.size w0 wr) ∧ Hid (Blk wr w0.heap.size #[.bool lost, .int .i64 cop, .int .i64 del] 43)) (fun i _ _ => 9 - (intOf i).toNat)
  case atStart => exact ⟨0, M, rfl, rfl, by omega, Lib.hid (by rw [HC.out]; omega), Lib.hid (fun _ h => h), L4, H4, T4⟩
  case round =>
    clear L4 T4 H4
    obtain ⟨k, m, rfl, rfl, hk, R1, R2, L4, H4, T4⟩ := hrel
    by_cases hm : m = []
    · subst hm
      have hkC : k = C := by have := R1.out; simpa using this
      subst hkC
      go_wp2_with fail
      refine (lw_none A l 1 2 [t] _ L4.out).mono ?_
      rintro e w5 ⟨rfl, d1, d2⟩
      have H5 := Lib.hid (balloc (bthen' H4.out d2) (.cells #[.int .i64 0, .int .i64 0, .string ⟨#[]⟩] 31))
      have T5 := (T4.out.below d2).alloc (.cells #[.int .i64 0, .int .i64 0, .string ⟨#[]⟩] 31)
      have c0 : (w5.alloc (.cells #[.int .i64 0, .int .i64 0, .string ⟨#[]⟩] 31)).cell? ⟨w0.heap.size, 0, none⟩ = some (.bool lost) := T5.cell 0
      have e2 : ((k : Int) == 0) = lost := by have h := HE.out; rw [HT.out] at h; exact h
      clear d1 d2 T5
      go_wp2
      go_ret
      exact ⟨rfl, H5.out⟩
    · have hbm := best_mem hm
      obtain ⟨z1, z2, z3⟩ := MB.out _ (R2.out _ hbm)
      have hlen : m.length = (m.erase (best m)).length + 1 := by
        rw [List.length_erase_of_mem hbm]
        have := List.length_pos_iff.2 hm
        omega
      have hk9 : k < 9 := by have := R1.out; omega
      have R1' : Hid (k + 1 + (m.erase (best m)).length = C) := Lib.hid (by have := R1.out; omega)
      have R2' : Hid (∀ z, z ∈ m.erase (best m) → z ∈ M) := Lib.hid (fun z hz => R2.out z (List.mem_of_mem_erase hz))
      have N := Lib.hid hm
      clear R1 R2 hbm hlen hm
      go_wp2_with fail
      refine (lw_next A l 1 2 [t] m _ L4.out N.out).mono ?_
      rintro e w5 ⟨rfl, d1, d2⟩
      generalize (best m).due = z at *
      generalize hO : Obj.cells #[.int .i64 (best m).src, .int .i64 (best m).dst, .string (best m).txt] 31 = O
      have L5 := Lib.hid (d1.quiet (balloc (Below.refl _ w5) O))
      have H5 := Lib.hid (balloc (H4.out.trans (d2.below H4.out.size AB.out)) O)
      have T5 := Lib.hid ((d2.blk T4.out (fun h => h AT.out)).alloc O)
      subst hO
      clear d1 d2 L4 H4 T4
      have fin : ∀ X : Prop, X → X := fun _ h => h
      rcases Int.lt_or_le due 0 with q1 | q1
      · go_wp2
        go_roundw
        case rel => exact ⟨k + 1, _, rfl, rfl, hk9, R1', R2', L5, H5, T5⟩
        case measure => simp [intOf]; omega
      · rcases Int.lt_or_le 1048576 due with q2 | q2
        · go_wp2
          go_roundw
          case rel => exact ⟨k + 1, _, rfl, rfl, hk9, R1', R2', L5, H5, T5⟩
          case measure => simp [intOf]; omega
        · have q3 := z3 q1 q2
          go_wp2
          go_roundw
          case rel => exact ⟨k + 1, _, rfl, rfl, hk9, R1', R2', L5, H5, T5⟩
          case measure => simp [intOf]; omega

end Go.Proofs.Ytemcbaacefjfnaa
