/- Numbers alone: straight lines. -/
import Derived.Test.YtkdcbinaglidoaaFixPure
set_option linter.unusedVariables false
set_option linter.unusedSimpArgs false
namespace Go.Proofs.Ytkdcbinaglidoaa
open Go.RowKit

theorem ends_facts {W V P Q lo hi : Int} (hW : 1 ≤ W) (hW' : W ≤ 500) (hV : V = W / 2) (hP : -1000 < P ∧ P < 1000) (hQ : -1000 < Q ∧ Q < 1000) (h1 : -V ≤ lo) (h2 : lo ≤ hi) (h3 : hi ≤ W - V) :
    lineOk lo (-V) P (W - V) Q = true ∧ lineOk hi (-V) P (W - V) Q = true ∧ lineOk (-V) (-V) P (W - V) Q = true ∧ lineOk (W - V) (-V) P (W - V) Q = true ∧
      lineQ (-V) (-V) P (W - V) Q = P ∧ lineQ (W - V) (-V) P (W - V) Q = Q ∧
      (P ≤ Q → P ≤ lineQ lo (-V) P (W - V) Q ∧ lineQ lo (-V) P (W - V) Q ≤ lineQ hi (-V) P (W - V) Q ∧ lineQ hi (-V) P (W - V) Q ≤ Q) ∧
      (Q ≤ P → lineQ lo (-V) P (W - V) Q ≤ P ∧ lineQ hi (-V) P (W - V) Q ≤ lineQ lo (-V) P (W - V) Q ∧ Q ≤ lineQ hi (-V) P (W - V) Q) := by
  have ok : ∀ x, -V ≤ x → x ≤ W - V → lineOk x (-V) P (W - V) Q = true ∧ lineQ x (-V) P (W - V) Q = P + rnd ((x + V) * (Q - P)) W := by
    intro x hx hx'
    have h : lineOk x (-V) P (W - V) Q = true := by
      unfold lineOk
      rw [Bool.and_eq_true]
      refine ⟨?_, by simp; omega⟩
      simp only [List.all_cons, List.all_nil, Bool.and_true, Bool.and_eq_true, sm_true]
      omega
    refine ⟨h, ?_⟩
    unfold lineQ
    rw [if_pos h, show x - -V = x + V by omega, show W - V - -V = W by omega]
  obtain ⟨a1, a2⟩ := ok lo h1 (by omega)
  obtain ⟨b1, b2⟩ := ok hi (by omega) h3
  obtain ⟨c1, c2⟩ := ok (-V) (by omega) (by omega)
  obtain ⟨d1, d2⟩ := ok (W - V) (by omega) (by omega)
  rw [show -V + V = 0 by omega, Int.zero_mul, rnd_zero hW] at c2
  rw [show W - V + V = W by omega, Int.mul_comm, rnd_times _ hW] at d2
  refine ⟨a1, b1, c1, d1, by omega, by omega, fun h => ?_, fun h => ?_⟩
  · rw [a2, b2]
    have k1 : 0 ≤ (lo + V) * (Q - P) := Int.mul_nonneg (by omega) (by omega)
    have k2 : (lo + V) * (Q - P) ≤ (hi + V) * (Q - P) := Int.mul_le_mul_of_nonneg_right (by omega) (by omega)
    have k3 : (hi + V) * (Q - P) ≤ W * (Q - P) := Int.mul_le_mul_of_nonneg_right (by omega) (by omega)
    have r1 := rnd_le hW k1
    have r2 := rnd_le hW k2
    have r3 := rnd_le hW k3
    rw [rnd_zero hW] at r1
    rw [Int.mul_comm W, rnd_times _ hW] at r3
    omega
  · rw [a2, b2]
    have k1 : (lo + V) * (Q - P) ≤ 0 := Int.mul_nonpos_of_nonneg_of_nonpos (by omega) (by omega)
    have k2 : (hi + V) * (Q - P) ≤ (lo + V) * (Q - P) := Int.mul_le_mul_of_nonpos_right (by omega) (by omega)
    have k3 : W * (Q - P) ≤ (hi + V) * (Q - P) := Int.mul_le_mul_of_nonpos_right (by omega) (by omega)
    have r1 := rnd_le hW k1
    have r2 := rnd_le hW k2
    have r3 := rnd_le hW k3
    rw [rnd_zero hW] at r1
    rw [Int.mul_comm W, rnd_times _ hW] at r3
    omega

end Go.Proofs.Ytkdcbinaglidoaa
