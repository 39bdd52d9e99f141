/- Contracts of the rounding functions of package fix. -/
import Derived.Test.YtkdcbinaglidoaaKit
set_option linter.unusedVariables false
set_option linter.unusedSimpArgs false
namespace Go.Proofs.Ytkdcbinaglidoaa
open Go.RowKit

/-- the nearest number to a quotient -/
def rnd (n d : Int) : Int := if d - n % d ≤ n % d then n / d + 1 else n / d
/-- a quotient rounded up -/
def rup (n d : Int) : Int := if 0 < n % d then n / d + 1 else n / d

theorem quo_bounds {n d : Int} (hd : 1 ≤ d) (h1 : -9223372036854775808 ≤ n) (h2 : n ≤ 9223372036854775807) : -9223372036854775808 ≤ n / d ∧ n / d ≤ 9223372036854775807 ∧ (n % d ≠ 0 → -4611686018427387905 ≤ n / d ∧ n / d ≤ 4611686018427387904) := by
  have e := Int.emod_add_mul_ediv n d
  have m0 := Int.emod_nonneg n (show d ≠ 0 by omega)
  have m1 := Int.emod_lt_of_pos n (show 0 < d by omega)
  generalize n / d = q at *
  generalize n % d = r at *
  have a1 : -9223372036854775808 ≤ q := by
    apply Decidable.byContradiction; intro h
    have : d * q ≤ d * (-9223372036854775809) := Int.mul_le_mul_of_nonneg_left (by omega) (by omega)
    omega
  have a2 : q ≤ 9223372036854775807 := by
    apply Decidable.byContradiction; intro h
    have : d * (9223372036854775808) ≤ d * q := Int.mul_le_mul_of_nonneg_left (by omega) (by omega)
    omega
  refine ⟨a1, a2, fun h => ⟨?_, ?_⟩⟩
  · apply Decidable.byContradiction; intro h
    have : d * q ≤ d * (-4611686018427387906) := Int.mul_le_mul_of_nonneg_left (by omega) (by omega)
    omega
  · apply Decidable.byContradiction; intro h
    have : d * (4611686018427387905) ≤ d * q := Int.mul_le_mul_of_nonneg_left (by omega) (by omega)
    omega
theorem tquo_pos {n d : Int} (hd : 1 ≤ d) (h : 0 ≤ n ∨ n % d = 0) : n.tmod d = n % d ∧ n.tdiv d = n / d := by
  have h1 := Int.emod_add_mul_ediv n d
  rcases h with h | h
  · exact ⟨Int.tmod_eq_emod_of_nonneg h, Int.tdiv_eq_ediv_of_nonneg h⟩
  · have hdv : d ∣ n := Int.dvd_of_emod_eq_zero h
    refine ⟨?_, ?_⟩
    · rw [Int.tmod_eq_emod]; simp [hdv]
    · rw [Int.tdiv_eq_ediv]; simp [hdv]

theorem tquo_neg {n d : Int} (hd : 1 ≤ d) (h : n < 0) (h' : n % d ≠ 0) : n.tmod d = n % d - d ∧ n.tdiv d = n / d + 1 := by
  have hdv : ¬ d ∣ n := fun hd => h' (Int.emod_eq_zero_of_dvd hd)
  have hs : d.sign = 1 := Int.sign_eq_one_of_pos (by omega)
  refine ⟨?_, ?_⟩
  · rw [Int.tmod_eq_emod, if_neg (by intro hh; rcases hh with hh | hh; omega; exact hdv hh)]; omega
  · rw [Int.tdiv_eq_ediv, if_neg (by intro hh; rcases hh with hh | hh; omega; exact hdv hh), hs]

set_option maxHeartbeats 400000 in
theorem quo_small (f : Value) (n d : Int) (w : World) (h0 : d < 1) :
    Calls Try.prog 32 #[.agg #[f], .int .i64 n, .int .i64 d] w fun e w' => e = .returned (.tuple #[.int .i64 0, .bool false]) ∧ Below w.heap.size w w' := by
  go_enter Try.func32, Try.ntmps32
  go_wp2
  go_ret2
  exact ⟨rfl, (Below.refl _ _).alloc (Nat.le_refl _) _⟩

set_option maxHeartbeats 400000 in
theorem round_more (r d : Int) (w : World) (h0 : 0 ≤ r) (h1 : r < d) (hd : d ≤ 9223372036854775807) :
    Calls Try.prog 31 #[.int .i64 r, .int .i64 d] w fun e w' => e = .returned (.bool (decide (d - r ≤ r))) ∧ w = w' := by
  go_enter Try.func31, Try.ntmps31
  go_wp2
  go_ret
  exact ⟨by first | rfl | simp, rfl⟩

set_option maxHeartbeats 1000000 in
theorem quo_round (n d : Int) (w : World) (h0 : 1 ≤ d) (hd : d ≤ 9223372036854775807) (hn : -9223372036854775808 ≤ n) (hn' : n ≤ 9223372036854775807) :
    Calls Try.prog 32 #[.agg #[.func (.func 31) #[] #[]], .int .i64 n, .int .i64 d] w fun e w' => e = .returned (.tuple #[.int .i64 (rnd n d), .bool true]) ∧ Below w.heap.size w w' := by
  have b0 : (d == 0) = false := by simp; omega
  obtain ⟨q1, q2, q3⟩ := quo_bounds h0 hn hn'
  have m0 := Int.emod_nonneg n (show d ≠ 0 by omega)
  have m1 := Int.emod_lt_of_pos n (show 0 < d by omega)
  unfold rnd
  by_cases hs : 0 ≤ n ∨ n % d = 0
  · obtain ⟨t1, t2⟩ := tquo_pos h0 hs
    have q4 : n % d ≠ 0 → -4611686018427387905 ≤ n / d := fun h => (q3 h).1
    have q5 : n % d ≠ 0 → n / d ≤ 4611686018427387904 := fun h => (q3 h).2
    clear q3 hs
    generalize n / d = q at *
    generalize n % d = r at *
    by_cases hm : d - r ≤ r
    all_goals
      first | rw [if_pos hm] | rw [if_neg hm] | skip
      first | (have hm' : (decide (d - r ≤ r)) = true := by simp [hm]) | (have hm' : (decide (d - r ≤ r)) = false := by simp [hm])
      first | (have q6 : -4611686018427387905 ≤ q := by omega) | skip
      first | (have q7 : q ≤ 4611686018427387904 := by omega) | skip
      clear q4 q5
      have HM := Lib.hid hm'
      clear hm hm'
      go_enter Try.func32, Try.ntmps32
      go_wp2
      go_quiet (fail)
      go_wp2_with (go_at_call 31; refine (round_more _ _ _ (by omega) (by omega) (by omega)).mono ?_; rintro e w' ⟨rfl, rfl⟩; rw [HM.out])
      go_ret2
      exact ⟨rfl, bdrewN (balloc (Below.refl _ _) _) _⟩
  · have hs1 : n < 0 := by omega
    have hs2 : n % d ≠ 0 := by omega
    obtain ⟨t1, t2⟩ := tquo_neg h0 hs1 hs2
    have q4 := (q3 hs2).1
    have q5 := (q3 hs2).2
    clear q3 hs
    generalize n / d = q at *
    generalize n % d = r at *
    have q6 : 0 < r := by omega
    by_cases hm : d - r ≤ r
    all_goals
      first | rw [if_pos hm] | rw [if_neg hm] | skip
      first | (have hm' : (decide (d - r ≤ r)) = true := by simp [hm]) | (have hm' : (decide (d - r ≤ r)) = false := by simp [hm])
      have HM := Lib.hid hm'
      clear hm hm'
      have e1 : r - d + d = r := by omega
      have e2 : q + 1 - 1 = q := by omega
      go_enter Try.func32, Try.ntmps32
      go_wp2
      go_quiet (fail)
      go_wp2_with (go_at_call 31; refine (round_more _ _ _ (by omega) (by omega) (by omega)).mono ?_; rintro e w' ⟨rfl, rfl⟩; rw [HM.out])
      go_ret2
      exact ⟨rfl, bdrewN (balloc (Below.refl _ _) _) _⟩

set_option maxHeartbeats 400000 in
theorem round_any (n d : Int) (w : World) (h0 : 1 ≤ d) (hd : d ≤ 9223372036854775807) (hn : -9223372036854775808 ≤ n) (hn' : n ≤ 9223372036854775807) :
    Calls Try.prog 13 #[.int .i64 n, .int .i64 d] w fun e w' => e = .returned (.tuple #[.int .i64 (rnd n d), .bool true]) ∧ Below w.heap.size w w' := by
  go_enter Try.func13, Try.ntmps13
  go_wp2_with (go_at_call 32; refine (quo_round _ _ _ h0 hd hn hn').mono ?_; rintro e w' ⟨rfl, hb⟩)
  go_ret2
  exact ⟨rfl, hb⟩

set_option maxHeartbeats 400000 in
theorem round_none (n d : Int) (w : World) (h0 : d < 1) :
    Calls Try.prog 13 #[.int .i64 n, .int .i64 d] w fun e w' => e = .returned (.tuple #[.int .i64 0, .bool false]) ∧ Below w.heap.size w w' := by
  go_enter Try.func13, Try.ntmps13
  go_wp2_with (go_at_call 32; refine (quo_small _ _ _ _ h0).mono ?_; rintro e w' ⟨rfl, hb⟩)
  go_ret2
  exact ⟨rfl, hb⟩

set_option maxHeartbeats 400000 in
theorem up_more (r d : Int) (w : World) (h0 : 0 ≤ r) (h1 : r < d) (hd : d ≤ 9223372036854775807) :
    Calls Try.prog 34 #[.int .i64 r, .int .i64 d] w fun e w' => e = .returned (.bool (decide (0 < r))) ∧ w = w' := by
  go_enter Try.func34, Try.ntmps34
  go_wp2
  go_ret
  exact ⟨by first | rfl | simp, rfl⟩

set_option maxHeartbeats 1000000 in
theorem quo_up (n d : Int) (w : World) (h0 : 1 ≤ d) (hd : d ≤ 9223372036854775807) (hn : -9223372036854775808 ≤ n) (hn' : n ≤ 9223372036854775807) :
    Calls Try.prog 32 #[.agg #[.func (.func 34) #[] #[]], .int .i64 n, .int .i64 d] w fun e w' => e = .returned (.tuple #[.int .i64 (rup n d), .bool true]) ∧ Below w.heap.size w w' := by
  have b0 : (d == 0) = false := by simp; omega
  obtain ⟨q1, q2, q3⟩ := quo_bounds h0 hn hn'
  have m0 := Int.emod_nonneg n (show d ≠ 0 by omega)
  have m1 := Int.emod_lt_of_pos n (show 0 < d by omega)
  unfold rup
  by_cases hs : 0 ≤ n ∨ n % d = 0
  · obtain ⟨t1, t2⟩ := tquo_pos h0 hs
    have q4 : n % d ≠ 0 → -4611686018427387905 ≤ n / d := fun h => (q3 h).1
    have q5 : n % d ≠ 0 → n / d ≤ 4611686018427387904 := fun h => (q3 h).2
    clear q3 hs
    generalize n / d = q at *
    generalize n % d = r at *
    by_cases hm : 0 < r
    all_goals
      first | rw [if_pos hm] | rw [if_neg hm] | skip
      first | (have hm' : (decide (0 < r)) = true := by simp [hm]) | (have hm' : (decide (0 < r)) = false := by simp [hm])
      first | (have q6 : -4611686018427387905 ≤ q := by omega) | skip
      first | (have q7 : q ≤ 4611686018427387904 := by omega) | skip
      clear q4 q5
      have HM := Lib.hid hm'
      clear hm hm'
      go_enter Try.func32, Try.ntmps32
      go_wp2
      go_quiet (fail)
      go_wp2_with (go_at_call 34; refine (up_more _ _ _ (by omega) (by omega) (by omega)).mono ?_; rintro e w' ⟨rfl, rfl⟩; rw [HM.out])
      go_ret2
      exact ⟨rfl, bdrewN (balloc (Below.refl _ _) _) _⟩
  · have hs1 : n < 0 := by omega
    have hs2 : n % d ≠ 0 := by omega
    obtain ⟨t1, t2⟩ := tquo_neg h0 hs1 hs2
    have q4 := (q3 hs2).1
    have q5 := (q3 hs2).2
    clear q3 hs
    generalize n / d = q at *
    generalize n % d = r at *
    have q6 : 0 < r := by omega
    by_cases hm : 0 < r
    all_goals
      first | rw [if_pos hm] | rw [if_neg hm] | skip
      first | (have hm' : (decide (0 < r)) = true := by simp [hm]) | (have hm' : (decide (0 < r)) = false := by simp [hm])
      have HM := Lib.hid hm'
      clear hm hm'
      have e1 : r - d + d = r := by omega
      have e2 : q + 1 - 1 = q := by omega
      go_enter Try.func32, Try.ntmps32
      go_wp2
      go_quiet (fail)
      go_wp2_with (go_at_call 34; refine (up_more _ _ _ (by omega) (by omega) (by omega)).mono ?_; rintro e w' ⟨rfl, rfl⟩; rw [HM.out])
      go_ret2
      exact ⟨rfl, bdrewN (balloc (Below.refl _ _) _) _⟩

set_option maxHeartbeats 400000 in
theorem up_any (n d : Int) (w : World) (h0 : 1 ≤ d) (hd : d ≤ 9223372036854775807) (hn : -9223372036854775808 ≤ n) (hn' : n ≤ 9223372036854775807) :
    Calls Try.prog 15 #[.int .i64 n, .int .i64 d] w fun e w' => e = .returned (.tuple #[.int .i64 (rup n d), .bool true]) ∧ Below w.heap.size w w' := by
  go_enter Try.func15, Try.ntmps15
  go_wp2_with (go_at_call 32; refine (quo_up _ _ _ h0 hd hn hn').mono ?_; rintro e w' ⟨rfl, hb⟩)
  go_ret2
  exact ⟨rfl, hb⟩

set_option maxHeartbeats 400000 in
theorem up_none (n d : Int) (w : World) (h0 : d < 1) :
    Calls Try.prog 15 #[.int .i64 n, .int .i64 d] w fun e w' => e = .returned (.tuple #[.int .i64 0, .bool false]) ∧ Below w.heap.size w w' := by
  go_enter Try.func15, Try.ntmps15
  go_wp2_with (go_at_call 32; refine (quo_small _ _ _ _ h0).mono ?_; rintro e w' ⟨rfl, hb⟩)
  go_ret2
  exact ⟨rfl, hb⟩

set_option maxHeartbeats 400000 in
theorem down_more (r d : Int) (w : World) (h0 : 0 ≤ r) (h1 : r < d) (hd : d ≤ 9223372036854775807) :
    Calls Try.prog 33 #[.int .i64 r, .int .i64 d] w fun e w' => e = .returned (.bool ((false))) ∧ w = w' := by
  go_enter Try.func33, Try.ntmps33
  go_wp2
  go_ret
  exact ⟨by first | rfl | simp, rfl⟩

set_option maxHeartbeats 1000000 in
theorem quo_down (n d : Int) (w : World) (h0 : 1 ≤ d) (hd : d ≤ 9223372036854775807) (hn : -9223372036854775808 ≤ n) (hn' : n ≤ 9223372036854775807) :
    Calls Try.prog 32 #[.agg #[.func (.func 33) #[] #[]], .int .i64 n, .int .i64 d] w fun e w' => e = .returned (.tuple #[.int .i64 (n / d), .bool true]) ∧ Below w.heap.size w w' := by
  have b0 : (d == 0) = false := by simp; omega
  obtain ⟨q1, q2, q3⟩ := quo_bounds h0 hn hn'
  have m0 := Int.emod_nonneg n (show d ≠ 0 by omega)
  have m1 := Int.emod_lt_of_pos n (show 0 < d by omega)
  skip
  by_cases hs : 0 ≤ n ∨ n % d = 0
  · obtain ⟨t1, t2⟩ := tquo_pos h0 hs
    have q4 : n % d ≠ 0 → -4611686018427387905 ≤ n / d := fun h => (q3 h).1
    have q5 : n % d ≠ 0 → n / d ≤ 4611686018427387904 := fun h => (q3 h).2
    clear q3 hs
    generalize n / d = q at *
    generalize n % d = r at *
    first | (have q6 : -4611686018427387905 ≤ q := by omega) | skip
    first | (have q7 : q ≤ 4611686018427387904 := by omega) | skip
    clear q4 q5
    go_enter Try.func32, Try.ntmps32
    go_wp2
    go_quiet (fail)
    go_wp2_with (go_at_call 33; refine (down_more _ _ _ (by omega) (by omega) (by omega)).mono ?_; rintro e w' ⟨rfl, rfl⟩)
    go_ret2
    exact ⟨rfl, bdrewN (balloc (Below.refl _ _) _) _⟩
  · have hs1 : n < 0 := by omega
    have hs2 : n % d ≠ 0 := by omega
    obtain ⟨t1, t2⟩ := tquo_neg h0 hs1 hs2
    have q4 := (q3 hs2).1
    have q5 := (q3 hs2).2
    clear q3 hs
    generalize n / d = q at *
    generalize n % d = r at *
    have q6 : 0 < r := by omega
    have e1 : r - d + d = r := by omega
    have e2 : q + 1 - 1 = q := by omega
    go_enter Try.func32, Try.ntmps32
    go_wp2
    go_quiet (fail)
    go_wp2_with (go_at_call 33; refine (down_more _ _ _ (by omega) (by omega) (by omega)).mono ?_; rintro e w' ⟨rfl, rfl⟩)
    go_ret2
    exact ⟨rfl, bdrewN (balloc (Below.refl _ _) _) _⟩

set_option maxHeartbeats 400000 in
theorem down_any (n d : Int) (w : World) (h0 : 1 ≤ d) (hd : d ≤ 9223372036854775807) (hn : -9223372036854775808 ≤ n) (hn' : n ≤ 9223372036854775807) :
    Calls Try.prog 14 #[.int .i64 n, .int .i64 d] w fun e w' => e = .returned (.tuple #[.int .i64 (n / d), .bool true]) ∧ Below w.heap.size w w' := by
  go_enter Try.func14, Try.ntmps14
  go_wp2_with (go_at_call 32; refine (quo_down _ _ _ h0 hd hn hn').mono ?_; rintro e w' ⟨rfl, hb⟩)
  go_ret2
  exact ⟨rfl, hb⟩

set_option maxHeartbeats 400000 in
theorem down_none (n d : Int) (w : World) (h0 : d < 1) :
    Calls Try.prog 14 #[.int .i64 n, .int .i64 d] w fun e w' => e = .returned (.tuple #[.int .i64 0, .bool false]) ∧ Below w.heap.size w w' := by
  go_enter Try.func14, Try.ntmps14
  go_wp2_with (go_at_call 32; refine (quo_small _ _ _ _ h0).mono ?_; rintro e w' ⟨rfl, hb⟩)
  go_ret2
  exact ⟨rfl, hb⟩

end Go.Proofs.Ytkdcbinaglidoaa
