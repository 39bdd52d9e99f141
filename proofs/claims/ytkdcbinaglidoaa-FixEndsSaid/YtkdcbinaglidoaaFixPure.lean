/- Numbers alone: what rounding, parts and made scalars satisfy. -/
import Derived.Test.YtkdcbinaglidoaaFixT
set_option linter.unusedVariables false
set_option linter.unusedSimpArgs false
namespace Go.Proofs.Ytkdcbinaglidoaa
open Go.RowKit

theorem rnd_le {n m d : Int} (hd : 1 ≤ d) (h : n ≤ m) : rnd n d ≤ rnd m d := by
  have e := Int.emod_add_mul_ediv n d
  have e' := Int.emod_add_mul_ediv m d
  have m0 := Int.emod_nonneg n (show d ≠ 0 by omega)
  have m1 := Int.emod_lt_of_pos n (show 0 < d by omega)
  have m0' := Int.emod_nonneg m (show d ≠ 0 by omega)
  have m1' := Int.emod_lt_of_pos m (show 0 < d by omega)
  have h1 : n / d ≤ m / d := Int.ediv_le_ediv (by omega) h
  unfold rnd
  generalize n / d = q at *
  generalize n % d = r at *
  generalize m / d = q' at *
  generalize m % d = r' at *
  by_cases hq : q < q'
  · split <;> split <;> omega
  · obtain rfl : q = q' := by omega
    have : r ≤ r' := by omega
    split <;> split <;> omega

theorem rnd_zero {d : Int} (hd : 1 ≤ d) : rnd 0 d = 0 := by unfold rnd; simp; omega
theorem rnd_times (q : Int) {d : Int} (hd : 1 ≤ d) : rnd (q * d) d = q := by
  have := rnd_add 0 d q hd
  rwa [Int.add_zero, rnd_zero hd, Int.add_zero] at this

theorem rnd_opp (p : Int) {d : Int} (hd : 1 ≤ d) : 0 ≤ rnd p d + rnd (-p) d ∧ rnd p d + rnd (-p) d ≤ 1 := by
  have e := Int.emod_add_mul_ediv p d
  have m0 := Int.emod_nonneg p (show d ≠ 0 by omega)
  have m1 := Int.emod_lt_of_pos p (show 0 < d by omega)
  have e2 := Int.emod_add_mul_ediv (-p) d
  have m2 := Int.emod_nonneg (-p) (show d ≠ 0 by omega)
  have m3 := Int.emod_lt_of_pos (-p) (show 0 < d by omega)
  unfold rnd
  generalize p / d = q at *
  generalize p % d = r at *
  generalize -p / d = q' at *
  generalize -p % d = r' at *
  have k : d * (q + q') = -(r + r') := by rw [Int.mul_add]; omega
  have k1 : q + q' ≤ 0 := by
    apply Decidable.byContradiction; intro h
    have : d * 1 ≤ d * (q + q') := Int.mul_le_mul_of_nonneg_left (by omega) (by omega)
    omega
  have k2 : -1 ≤ q + q' := by
    apply Decidable.byContradiction; intro h
    have : d * (q + q') ≤ d * (-2) := Int.mul_le_mul_of_nonneg_left (by omega) (by omega)
    omega
  rcases (show q + q' = 0 ∨ q + q' = -1 by omega) with h | h
  · rw [h] at k; split <;> split <;> omega
  · rw [h] at k; split <;> split <;> omega

theorem made_right (n d : Int) : rightB (madeN n d) (madeD n d) = true ∧ madeD n d ≤ 64 := by
  obtain ⟨b1, b2, b3, b4⟩ := made_bounds n d
  obtain ⟨g1, g2, g3, g4, g5, g6⟩ := gcd_facts b3 b1
  unfold madeN madeD
  generalize madeDen d = D at *
  generalize madeNum n d = N at *
  obtain ⟨a, rfl⟩ := Int.eq_ofNat_of_zero_le b3
  obtain ⟨b, rfl⟩ := Int.eq_ofNat_of_zero_le (show 0 ≤ D by omega)
  have hg : gcdI a b = ((Nat.gcd a b : Nat) : Int) := rfl
  have h0 : 0 < Nat.gcd a b := by rw [hg] at g1; omega
  have h1 : 1 ≤ (b : Int) / gcdI a b := by
    rw [hg]
    have : 0 < b / Nat.gcd a b := Nat.div_pos (Nat.le_of_dvd (by omega) (Nat.gcd_dvd_right _ _)) h0
    have h2 : ((b / Nat.gcd a b : Nat) : Int) = (b : Int) / ((Nat.gcd a b : Nat) : Int) := rfl
    omega
  have h2 : (a : Int) / gcdI a b ≤ (b : Int) / gcdI a b := Int.ediv_le_ediv (by omega) b4
  refine ⟨rightB_true.2 ⟨h1, by omega, g3, h2, ?_⟩, by omega⟩
  rw [hg]
  have x1 : ((a : Int) / ((Nat.gcd a b : Nat) : Int)).toNat = a / Nat.gcd a b := rfl
  have x2 : ((b : Int) / ((Nat.gcd a b : Nat) : Int)).toNat = b / Nat.gcd a b := rfl
  rw [x1, x2, Nat.gcd_div (Nat.gcd_dvd_left a b) (Nat.gcd_dvd_right a b), Nat.div_self h0]

theorem other_right {n d : Int} (h : rightB n d = true) : (n = d → d = 1) ∧ (n ≠ d → rightB (d - n) d = true) := by
  obtain ⟨d1, d2, n1, n2, hg⟩ := rightB_true.1 h
  refine ⟨fun e => ?_, fun e => rightB_true.2 ⟨d1, d2, by omega, by omega, ?_⟩⟩
  · rw [e, Nat.gcd_self] at hg; omega
  · obtain ⟨a, rfl⟩ := Int.eq_ofNat_of_zero_le n1
    obtain ⟨b, rfl⟩ := Int.eq_ofNat_of_zero_le (show 0 ≤ d by omega)
    simp only [Int.toNat_natCast] at hg ⊢
    rw [show ((b : Int) - a).toNat = b - a by omega]
    have hab : a ≤ b := by omega
    have hd : Nat.gcd (b - a) b ∣ a := by
      have h1 := Nat.gcd_dvd_left (b - a) b
      have h2 := Nat.gcd_dvd_right (b - a) b
      have h3 := Nat.dvd_sub h2 h1
      rwa [Nat.sub_sub_self hab] at h3
    have h4 := Nat.dvd_gcd hd (Nat.gcd_dvd_right (b - a) b)
    rw [hg] at h4
    exact Nat.dvd_one.1 h4

theorem part_is {a n d : Int} (ha : -1048576 ≤ a ∧ a ≤ 1048576) (h : rightB n d = true) : partOk a n d = true ∧ partQ a n d = rnd (64 * a * n) d := by
  have h1 : partOk a n d = true := by simp [partOk, sm_true.2 ha, h]
  exact ⟨h1, by simp [partQ, h1]⟩

theorem part_one {a : Int} (ha : -1048576 ≤ a ∧ a ≤ 1048576) : partOk a 1 1 = true ∧ partQ a 1 1 = 64 * a := by
  obtain ⟨h1, h2⟩ := part_is ha (show rightB 1 1 = true by decide)
  refine ⟨h1, ?_⟩
  rw [h2]; have := rnd_times (64 * a) (d := 1) (by omega); exact this
theorem part_zero {a : Int} (ha : -1048576 ≤ a ∧ a ≤ 1048576) : partOk a 0 1 = true ∧ partQ a 0 1 = 0 := by
  obtain ⟨h1, h2⟩ := part_is ha (show rightB 0 1 = true by decide)
  refine ⟨h1, ?_⟩
  rw [h2, Int.mul_zero]; exact rnd_zero (by omega)

theorem part_facts {a b n d : Int} (ha : -1048576 ≤ a ∧ a ≤ 1048576) (hb : -1048576 ≤ b ∧ b ≤ 1048576) (hab : a ≤ b) (h : rightB n d = true) (hnd : n ≠ d) :
    partQ a n d ≤ partQ b n d ∧ (0 ≤ a → 0 ≤ partQ a n d ∧ partQ a n d ≤ 64 * a) ∧ (a ≤ 0 → 64 * a ≤ partQ a n d ∧ partQ a n d ≤ 0) ∧
      0 ≤ partQ a n d + partQ a (d - n) d - 64 * a ∧ partQ a n d + partQ a (d - n) d - 64 * a ≤ 1 := by
  obtain ⟨d1, d2, n1, n2, hg⟩ := rightB_true.1 h
  rw [(part_is ha h).2, (part_is hb h).2, (part_is ha ((other_right h).2 hnd)).2]
  have k0 : 64 * a * n ≤ 64 * b * n := Int.mul_le_mul_of_nonneg_right (by omega) n1
  have k1 := rnd_times (64 * a) d1
  have e : 64 * a * (d - n) = 64 * a * d + -(64 * a * n) := by rw [Int.mul_sub]; omega
  have k2 := rnd_opp (64 * a * n) d1
  refine ⟨rnd_le d1 k0, fun h0 => ?_, fun h0 => ?_, ?_, ?_⟩
  · have x1 : 64 * a * n ≤ 64 * a * d := Int.mul_le_mul_of_nonneg_left n2 (by omega)
    have x2 : 0 ≤ 64 * a * n := Int.mul_nonneg (by omega) n1
    have y1 := rnd_le d1 x1
    have y2 := rnd_le d1 x2
    rw [rnd_zero d1] at y2
    omega
  · have x1 : 64 * a * d ≤ 64 * a * n := Int.mul_le_mul_of_nonpos_left (by omega) n2
    have x2 : 64 * a * n ≤ 0 := Int.mul_nonpos_of_nonpos_of_nonneg (by omega) n1
    have y1 := rnd_le d1 x1
    have y2 := rnd_le d1 x2
    rw [rnd_zero d1] at y2
    omega
  · rw [e, rnd_add _ _ _ d1]; omega
  · rw [e, rnd_add _ _ _ d1]; omega

end Go.Proofs.Ytkdcbinaglidoaa
