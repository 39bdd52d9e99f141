/- The walk of FixNear. -/
import Derived.Test.YtkdcbinaglidoaaFixU
import Derived.Test.YtkdcbinaglidoaaFixT
import Derived.OpenShut
set_option linter.unusedVariables false
set_option linter.unusedSimpArgs false
namespace Go.Proofs.Ytkdcbinaglidoaa
open Go.RowKit

theorem rnd_mono {n m d : Int} (hd : 1 ≤ d) (h : n ≤ m) : rnd n d ≤ rnd m d := by
  have e := Int.emod_add_mul_ediv n d
  have e' := Int.emod_add_mul_ediv m d
  have m0 := Int.emod_nonneg n (show d ≠ 0 by omega)
  have m1 := Int.emod_lt_of_pos n (show 0 < d by omega)
  have m0' := Int.emod_nonneg m (show d ≠ 0 by omega)
  have m1' := Int.emod_lt_of_pos m (show 0 < d by omega)
  have h1 : n / d ≤ m / d := Int.ediv_le_ediv (by omega) h
  unfold rnd
  generalize n / d = q at *
  generalize n % d = r at *
  generalize m / d = q' at *
  generalize m % d = r' at *
  by_cases hq : q < q'
  · split <;> split <;> omega
  · obtain rfl : q = q' := by omega
    have : r ≤ r' := by omega
    split <;> split <;> omega

theorem near_facts {N D : Int} (hd : 1 ≤ D) :
    N / D * D ≤ N ∧ N - N / D * D < D ∧ N / D ≤ rnd N D ∧ rnd N D ≤ rup N D ∧ rup N D * D ≥ N ∧ rup N D * D - N < D ∧ 2 * (rnd N D * D - N) ≤ D ∧ -(2 * (rnd N D * D - N)) < D ∧ (rup N D = N / D ∨ rup N D = N / D + 1) ∧ rup N D = -((-N) / D) := by
  have e := Int.emod_add_mul_ediv N D
  have m0 := Int.emod_nonneg N (show D ≠ 0 by omega)
  have m1 := Int.emod_lt_of_pos N (show 0 < D by omega)
  have e2 := Int.emod_add_mul_ediv (-N) D
  have m2 := Int.emod_nonneg (-N) (show D ≠ 0 by omega)
  have m3 := Int.emod_lt_of_pos (-N) (show 0 < D by omega)
  have hc : rup N D = -((-N) / D) := by
    unfold rup
    generalize N / D = q at *
    generalize N % D = r at *
    generalize -N / D = q' at *
    generalize -N % D = r' at *
    have k : D * (q + q') = -(r + r') := by rw [Int.mul_add]; omega
    have k1 : q + q' ≤ 0 := by
      apply Decidable.byContradiction; intro h
      have : D * 1 ≤ D * (q + q') := Int.mul_le_mul_of_nonneg_left (by omega) (by omega)
      omega
    have k2 : -1 ≤ q + q' := by
      apply Decidable.byContradiction; intro h
      have : D * (q + q') ≤ D * (-2) := Int.mul_le_mul_of_nonneg_left (by omega) (by omega)
      omega
    rcases (show q + q' = 0 ∨ q + q' = -1 by omega) with h | h
    · rw [h] at k; split <;> omega
    · rw [h] at k; split <;> omega
  have x1 : (N / D + 1) * D = N / D * D + D := by rw [Int.add_mul]; omega
  rw [Int.mul_comm D (N / D)] at e
  refine ⟨by omega, by omega, ?_, ?_, ?_, ?_, ?_, ?_, ?_, hc⟩
  · unfold rnd; split <;> omega
  · unfold rnd rup; split <;> split <;> omega
  · unfold rup; split <;> omega
  · unfold rup; split <;> omega
  · unfold rnd; split <;> omega
  · unfold rnd; split <;> omega
  · unfold rup; split <;> omega

theorem near_args (n d : Int) : -3000000 ≤ n.tmod 2000000 - 1000000 ∧ n.tmod 2000000 - 1000000 ≤ 3000000 ∧ -5000 < d.tmod 5000 ∧ d.tmod 5000 < 5000 ∧ 0 ≤ d.tmod 5000 * d.tmod 5000 ∧ d.tmod 5000 * d.tmod 5000 ≤ 25000000 := by
  have h1 := (mod_eq (n := n) (m := 2000000) (by omega)).1
  have h2 := (mod_eq (n := n) (m := 2000000) (by omega)).2.1
  have h3 := (mod_eq (n := d) (m := 5000) (by omega)).1
  have h4 := (mod_eq (n := d) (m := 5000) (by omega)).2.1
  have h5 := mul_bounds' (a := d.tmod 5000) (b := d.tmod 5000) (A := 5000) (B := 5000) (by omega) (by omega)
  have h6 : 0 ≤ d.tmod 5000 * d.tmod 5000 := by
    rcases Int.le_total 0 (d.tmod 5000) with h | h
    · exact Int.mul_nonneg h h
    · exact Int.mul_nonneg_of_nonpos_of_nonpos h h
  omega

set_option maxRecDepth 100000 in
set_option maxHeartbeats 4000000 in
theorem fixNear_walk (n d m : Int) (w : World) (wn : (Lit.int .i64 n).wf = true) (wd : (Lit.int .i64 d).wf = true) (wm : (Lit.int .u8 m).wf = true) :
    Calls Try.prog 4 #[.int .i64 n, .int .i64 d, .int .u8 m] w fun e w' => e = .returned (.bool true) ∧ Below w.heap.size w w' := by
  have hm := bounds_u8 wm
  obtain ⟨hm0, hm1⟩ := hm
  clear wn wd wm
  obtain ⟨a1, a2, a3, a4, a5, a6⟩ := near_args n d
  have HB := Below.refl w.heap.size w
  have hN : ∃ N, n.tmod 2000000 - 1000000 = N := ⟨_, rfl⟩
  obtain ⟨N, hN⟩ := hN
  have hS : ∃ S, d.tmod 5000 * d.tmod 5000 = S := ⟨_, rfl⟩
  obtain ⟨S, hS⟩ := hS
  rw [hN] at a1 a2
  rw [hS] at a5 a6
  have HN := Lib.hid hN
  have HS := Lib.hid hS
  have b1 := (mod_eq (n := n) (m := 2000000) (by omega)).1
  have b2 := (mod_eq (n := n) (m := 2000000) (by omega)).2.1
  clear hN
  go_enter Try.func4, Try.ntmps4
  go_wp2_with fail
  refine (sanity_any _).mono ?_
  rintro e w1 ⟨rfl, hb⟩
  replace HB := bthen' HB hb
  clear hb
  go_wp2_with fail
  rw [HN.out]
  clear HN HS hS b1 b2 a3 a4
  have d1 : 1 ≤ S / 5000 + 1 := by omega
  have d2 : S / 5000 + 1 ≤ 5001 := by omega
  generalize S / 5000 + 1 = D at *
  clear a5 a6
  obtain ⟨f1, f2, f3, f4, f5, f6, f7, f8, f9, f10⟩ := near_facts (N := N) d1
  have f11 : rnd N D ≤ rnd (N + m % 100) D := rnd_mono d1 (by omega)
  obtain ⟨r1, r2⟩ := rnd_bounds (n := N) (M := 3000000) d1 (by omega) (by omega)
  have r3 : -3000002 ≤ N / D := by rcases f9 with h | h <;> omega
  have r4 : N / D ≤ 3000001 := by omega
  have r5 : rup N D ≤ 3000002 := by rcases f9 with h | h <;> omega
  have HF := Lib.hid f9
  have HG := Lib.hid f10
  clear f9 f10
  refine (round_any _ _ _ (by omega) (by omega) (by omega) (by omega)).mono ?_
  rintro e w2 ⟨rfl, hb⟩
  replace HB := bthen' HB hb
  clear hb
  go_wp2_with fail
  refine (down_any _ _ _ (by omega) (by omega) (by omega) (by omega)).mono ?_
  rintro e w3 ⟨rfl, hb⟩
  replace HB := bthen' HB hb
  clear hb
  go_wp2_with fail
  refine (up_any _ _ _ (by omega) (by omega) (by omega) (by omega)).mono ?_
  rintro e w4 ⟨rfl, hb⟩
  replace HB := bthen' HB hb
  clear hb
  go_wp2_with fail
  refine (round_any _ _ _ (by omega) (by omega) (by omega) (by omega)).mono ?_
  rintro e w5 ⟨rfl, hb⟩
  replace HB := bthen' HB hb
  clear hb
  generalize rnd (N + m % 100) D = x at *
  generalize rnd N D = a at *
  generalize rup N D = c at *
  generalize N / D = b at *
  by_cases hcb : c = b
  all_goals
    first | (have e1 : (c == b) = true := beq_iff_eq.2 hcb) | (have e1 : (c == b) = false := beq_eq_false_iff_ne.2 hcb)
    first | (have e2 : (c == b + 1) = true := beq_iff_eq.2 (by rcases HF.out with h | h; exact absurd h hcb; exact h)) | skip
    have E1 := Lib.hid e1
    clear hcb
    go_wp2_with fail
    refine (down_any _ _ _ (by omega) (by omega) (by omega) (by omega)).mono ?_
    rintro e w6 ⟨rfl, hb⟩
    replace HB := bthen' HB hb
    clear hb
    have e3 : (c == -(-N / D)) = true := beq_iff_eq.2 HG.out
    have q1 : -9000000 ≤ -N / D := by have := HG.out; omega
    have q2 : -N / D ≤ 9000000 := by have := HG.out; omega
    generalize -N / D = q at *
    go_wp2
    go_ret
    exact ⟨rfl, HB⟩

end Go.Proofs.Ytkdcbinaglidoaa
