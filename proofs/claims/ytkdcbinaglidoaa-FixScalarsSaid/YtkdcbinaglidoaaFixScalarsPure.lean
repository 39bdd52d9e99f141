/- Numbers alone: products of scalars. -/
import Derived.Test.YtkdcbinaglidoaaFixPure
set_option linter.unusedVariables false
set_option linter.unusedSimpArgs false
namespace Go.Proofs.Ytkdcbinaglidoaa
open Go.RowKit

theorem gcd_split {N D : Int} (hN : 0 ≤ N) (hD : 1 ≤ D) :
    ∃ g, 1 ≤ g ∧ N = g * (N / gcdI N D) ∧ D = g * (D / gcdI N D) ∧ 0 ≤ N / gcdI N D ∧ 1 ≤ D / gcdI N D ∧ Nat.gcd (N / gcdI N D).toNat (D / gcdI N D).toNat = 1 := by
  obtain ⟨g1, g2, g3, g4, g5, g6⟩ := gcd_facts hN hD
  obtain ⟨a, rfl⟩ := Int.eq_ofNat_of_zero_le hN
  obtain ⟨b, rfl⟩ := Int.eq_ofNat_of_zero_le (show 0 ≤ D by omega)
  have hg : gcdI a b = ((Nat.gcd a b : Nat) : Int) := rfl
  have h0 : 0 < Nat.gcd a b := by rw [hg] at g1; omega
  rw [hg] at g1 ⊢
  have x1 : (a : Int) / ((Nat.gcd a b : Nat) : Int) = ((a / Nat.gcd a b : Nat) : Int) := rfl
  have x2 : (b : Int) / ((Nat.gcd a b : Nat) : Int) = ((b / Nat.gcd a b : Nat) : Int) := rfl
  have y1 := Nat.mul_div_cancel' (Nat.gcd_dvd_left a b)
  have y2 := Nat.mul_div_cancel' (Nat.gcd_dvd_right a b)
  have y3 : 0 < b / Nat.gcd a b := Nat.div_pos (Nat.le_of_dvd (by omega) (Nat.gcd_dvd_right _ _)) h0
  rw [x1, x2]
  refine ⟨((Nat.gcd a b : Nat) : Int), g1, ?_, ?_, Int.natCast_nonneg _, by omega, ?_⟩
  · rw [← Int.natCast_mul, y1]
  · rw [← Int.natCast_mul, y2]
  · simp only [Int.toNat_natCast]
    rw [Nat.gcd_div (Nat.gcd_dvd_left a b) (Nat.gcd_dvd_right a b), Nat.div_self h0]

theorem gcdI_scale {g X Y : Int} (hg : 1 ≤ g) (hX : 0 ≤ X) (hY : 0 ≤ Y) : gcdI (g * X) (g * Y) = g * gcdI X Y := by
  obtain ⟨k, rfl⟩ := Int.eq_ofNat_of_zero_le (show 0 ≤ g by omega)
  obtain ⟨a, rfl⟩ := Int.eq_ofNat_of_zero_le hX
  obtain ⟨b, rfl⟩ := Int.eq_ofNat_of_zero_le hY
  unfold gcdI
  rw [← Int.natCast_mul, ← Int.natCast_mul]
  simp only [Int.toNat_natCast]
  rw [Nat.gcd_mul_left, Int.natCast_mul]

theorem red_scale {g X Y : Int} (hg : 1 ≤ g) (hX : 0 ≤ X) (hY : 0 ≤ Y) : (g * X) / gcdI (g * X) (g * Y) = X / gcdI X Y ∧ (g * Y) / gcdI (g * X) (g * Y) = Y / gcdI X Y := by
  rw [gcdI_scale hg hX hY]
  exact ⟨Int.mul_ediv_mul_of_pos _ _ (by omega), Int.mul_ediv_mul_of_pos _ _ (by omega)⟩

theorem red_right {N D : Int} (hN : 0 ≤ N) (hD : 1 ≤ D) (h : N ≤ D) (hm : D ≤ 262144) : rightB (N / gcdI N D) (D / gcdI N D) = true := by
  obtain ⟨g, h1, h2, h3, h4, h5, h6⟩ := gcd_split hN hD
  obtain ⟨g1, g2, g3, g4, g5, g6⟩ := gcd_facts hN hD
  exact rightB_true.2 ⟨h5, by omega, h4, Int.ediv_le_ediv (by omega) h, h6⟩

/-- what a product comes to -/
theorem times_is {an ad bn bd : Int} (h1 : rightB an ad = true) (h2 : rightB bn bd = true) (hm : ad * bd ≤ 262144) :
    timesOk an ad bn bd = true ∧ timesN an ad bn bd = (an * bn) / gcdI (an * bn) (ad * bd) ∧ timesD an ad bn bd = (ad * bd) / gcdI (an * bn) (ad * bd) := by
  obtain ⟨p1, p2, p3, p4⟩ := right_prod h1 h2
  obtain ⟨g1, g2, g3, g4, g5, g6⟩ := gcd_facts p1 p3
  have hok : timesOk an ad bn bd = true := by simp [timesOk, h1, h2]; omega
  exact ⟨hok, by simp [timesN, hok], by simp [timesD, hok]⟩

theorem red_self {n d : Int} (h : rightB n d = true) : gcdI n d = 1 := by
  obtain ⟨_, _, _, _, hg⟩ := rightB_true.1 h
  unfold gcdI; rw [hg]; rfl

theorem times_one {n d : Int} (h : rightB n d = true) : timesOk n d 1 1 = true ∧ timesN n d 1 1 = n ∧ timesD n d 1 1 = d := by
  obtain ⟨d1, d2, n1, n2, hg⟩ := rightB_true.1 h
  obtain ⟨t1, t2, t3⟩ := times_is h (show rightB 1 1 = true by decide) (by omega)
  rw [Int.mul_one, Int.mul_one, red_self h, Int.ediv_one] at t2
  rw [Int.mul_one, Int.mul_one, red_self h, Int.ediv_one] at t3
  exact ⟨t1, t2, t3⟩

theorem times_zero {n d : Int} (h : rightB n d = true) : timesOk n d 0 1 = true ∧ timesN n d 0 1 = 0 ∧ timesD n d 0 1 = 1 := by
  obtain ⟨d1, d2, n1, n2, hg⟩ := rightB_true.1 h
  obtain ⟨t1, t2, t3⟩ := times_is h (show rightB 0 1 = true by decide) (by omega)
  have hz : gcdI 0 d = d := by
    obtain ⟨b, rfl⟩ := Int.eq_ofNat_of_zero_le (show 0 ≤ d by omega)
    unfold gcdI; simp
  rw [Int.mul_zero, Int.mul_one, hz] at t2 t3
  refine ⟨t1, ?_, ?_⟩
  · rw [t2]; simp
  · rw [t3]; exact Int.ediv_self (by omega)

theorem times_comm' (an ad bn bd : Int) : timesOk bn bd an ad = timesOk an ad bn bd ∧ timesN bn bd an ad = timesN an ad bn bd ∧ timesD bn bd an ad = timesD an ad bn bd := by
  have h : timesOk bn bd an ad = timesOk an ad bn bd := by
    unfold timesOk; rw [Int.mul_comm bn an, Int.mul_comm bd ad, Bool.and_comm (rightB bn bd)]
  refine ⟨h, ?_, ?_⟩
  · unfold timesN; rw [h, Int.mul_comm bn an, Int.mul_comm bd ad]
  · unfold timesD; rw [h, Int.mul_comm bn an, Int.mul_comm bd ad]

theorem scalars_facts {an ad bn bd cn cd : Int} (ha : rightB an ad = true) (hb : rightB bn bd = true) (hc : rightB cn cd = true) (la : ad ≤ 64) (lb : bd ≤ 64) (lc : cd ≤ 64) :
    timesOk an ad bn bd = true ∧ timesOk bn bd cn cd = true ∧
    rightB (timesN an ad bn bd) (timesD an ad bn bd) = true ∧ rightB (timesN bn bd cn cd) (timesD bn bd cn cd) = true ∧ timesD an ad bn bd ≤ 4096 ∧
    timesOk (timesN an ad bn bd) (timesD an ad bn bd) cn cd = true ∧ timesOk an ad (timesN bn bd cn cd) (timesD bn bd cn cd) = true ∧
    timesN (timesN an ad bn bd) (timesD an ad bn bd) cn cd = timesN an ad (timesN bn bd cn cd) (timesD bn bd cn cd) ∧
    timesD (timesN an ad bn bd) (timesD an ad bn bd) cn cd = timesD an ad (timesN bn bd cn cd) (timesD bn bd cn cd) ∧
    timesN an ad bn bd * ad * bd = timesD an ad bn bd * an * bn ∧
    timesN (timesN an ad bn bd) (timesD an ad bn bd) cn cd ≤ timesD (timesN an ad bn bd) (timesD an ad bn bd) cn cd := by
  obtain ⟨a1, a2, a3, a4, _⟩ := rightB_true.1 ha
  obtain ⟨b1, b2, b3, b4, _⟩ := rightB_true.1 hb
  obtain ⟨c1, c2, c3, c4, _⟩ := rightB_true.1 hc
  have m1 : 1 * 1 ≤ ad * bd := Int.mul_le_mul a1 b1 (by omega) (by omega)
  have m2 : ad * bd ≤ 64 * 64 := Int.mul_le_mul la lb (by omega) (by omega)
  have m3 : 1 * 1 ≤ bd * cd := Int.mul_le_mul b1 c1 (by omega) (by omega)
  have m4 : bd * cd ≤ 64 * 64 := Int.mul_le_mul lb lc (by omega) (by omega)
  have m5 : an * bn ≤ ad * bd := Int.mul_le_mul a4 b4 b3 (by omega)
  have m6 : bn * cn ≤ bd * cd := Int.mul_le_mul b4 c4 c3 (by omega)
  have m7 : 0 ≤ an * bn := Int.mul_nonneg a3 b3
  have m8 : 0 ≤ bn * cn := Int.mul_nonneg b3 c3
  obtain ⟨t1, t2, t3⟩ := times_is ha hb (by omega)
  obtain ⟨s1, s2, s3⟩ := times_is hb hc (by omega)
  have r1 := red_right m7 (show 1 ≤ ad * bd by omega) m5 (by omega)
  have r2 := red_right m8 (show 1 ≤ bd * cd by omega) m6 (by omega)
  obtain ⟨g, g1, g2, g3, g4, g5, -⟩ := gcd_split m7 (show 1 ≤ ad * bd by omega)
  obtain ⟨k, k1, k2, k3, k4, k5, -⟩ := gcd_split m8 (show 1 ≤ bd * cd by omega)
  rw [← t2, ← t3] at r1
  rw [← t2] at g2 g4
  rw [← t3] at g3 g5
  rw [← s2, ← s3] at r2
  rw [← s2] at k2 k4
  rw [← s3] at k3 k5
  clear t2 t3 s2 s3
  generalize timesN an ad bn bd = p at *
  generalize timesD an ad bn bd = q at *
  generalize timesN bn bd cn cd = u at *
  generalize timesD bn bd cn cd = v at *
  have q1 : q ≤ 4096 := by
    have : 1 * q ≤ g * q := Int.mul_le_mul_of_nonneg_right g1 (by omega)
    omega
  have v1 : v ≤ 4096 := by
    have : 1 * v ≤ k * v := Int.mul_le_mul_of_nonneg_right k1 (by omega)
    omega
  have w1 : q * cd ≤ 4096 * 64 := Int.mul_le_mul q1 lc (by omega) (by omega)
  have w2 : ad * v ≤ 64 * 4096 := Int.mul_le_mul la v1 (by omega) (by omega)
  obtain ⟨x1, x2, x3⟩ := times_is r1 hc (by omega)
  obtain ⟨y1, y2, y3⟩ := times_is ha r2 (by omega)
  have e1 : g * (p * cn) = k * (an * u) := by
    rw [← Int.mul_assoc, ← g2, Int.mul_left_comm, ← k2, Int.mul_assoc]
  have e2 : g * (q * cd) = k * (ad * v) := by
    rw [← Int.mul_assoc, ← g3, Int.mul_left_comm, ← k3, Int.mul_assoc]
  have n1 : 0 ≤ p * cn := Int.mul_nonneg g4 c3
  have n2 : 0 ≤ q * cd := Int.mul_nonneg (by omega) (by omega)
  have n3 : 0 ≤ an * u := Int.mul_nonneg a3 k4
  have n4 : 0 ≤ ad * v := Int.mul_nonneg (by omega) (by omega)
  obtain ⟨z1, z2⟩ := red_scale g1 n1 n2
  obtain ⟨z3, z4⟩ := red_scale k1 n3 n4
  have hle : p * cn ≤ q * cd := Int.mul_le_mul (rightB_true.1 r1).2.2.2.1 c4 c3 (by omega)
  have gg := (gcd_facts n1 (show 1 ≤ q * cd from by have : 1 * 1 ≤ q * cd := Int.mul_le_mul g5 c1 (by omega) (by omega); omega)).1
  refine ⟨t1, s1, r1, r2, q1, x1, y1, ?_, ?_, ?_, ?_⟩
  · rw [x2, y2, ← z1, ← z3, e1, e2]
  · rw [x3, y3, ← z2, ← z4, e1, e2]
  · have h1 : p * ad * bd = p * (g * q) := by rw [Int.mul_assoc, ← g3]
    have h2 : q * an * bn = q * (g * p) := by rw [Int.mul_assoc, ← g2]
    rw [h1, h2, Int.mul_left_comm, Int.mul_left_comm q, Int.mul_comm p q]
  · rw [x2, x3]
    exact Int.ediv_le_ediv (by omega) hle

end Go.Proofs.Ytkdcbinaglidoaa
