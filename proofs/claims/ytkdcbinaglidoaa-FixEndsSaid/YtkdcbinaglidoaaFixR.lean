/- Contracts of the functions of package abugidaref01. -/
import Derived.Test.YtkdcbinaglidoaaFixE
set_option linter.unusedVariables false
set_option linter.unusedSimpArgs false
namespace Go.Proofs.Ytkdcbinaglidoaa
open Go.RowKit

set_option maxHeartbeats 1000000 in
theorem rdown_any (n d : Int) (w : World) (h0 : 1 ≤ d) (hd : d ≤ 9223372036854775807) (hn : -9223372036854775808 ≤ n) (hn' : n ≤ 9223372036854775807) :
    Calls Try.prog 17 #[.int .i64 n, .int .i64 d] w fun e w' => e = .returned (.tuple #[.int .i64 (n / d), .bool true]) ∧ w = w' := by
  have b0 : (d == 0) = false := by simp; omega
  obtain ⟨q1, q2, q3⟩ := quo_bounds h0 hn hn'
  have m0 := Int.emod_nonneg n (show d ≠ 0 by omega)
  have m1 := Int.emod_lt_of_pos n (show 0 < d by omega)
  by_cases hs : 0 ≤ n ∨ n % d = 0
  · obtain ⟨t1, t2⟩ := tquo_pos h0 hs
    clear q3 hs
    generalize n / d = q at *
    generalize n % d = r at *
    go_enter Try.func17, Try.ntmps17
    go_wp2
    go_ret2
    exact ⟨rfl, rfl⟩
  · have hs1 : n < 0 := by omega
    have hs2 : n % d ≠ 0 := by omega
    obtain ⟨t1, t2⟩ := tquo_neg h0 hs1 hs2
    have q4 := (q3 hs2).1
    have q5 := (q3 hs2).2
    clear q3 hs
    generalize n / d = q at *
    generalize n % d = r at *
    have q6 : 0 < r := by omega
    have e2 : q + 1 - 1 = q := by omega
    go_enter Try.func17, Try.ntmps17
    go_wp2
    go_ret2
    exact ⟨rfl, rfl⟩

set_option maxHeartbeats 1000000 in
theorem rup_any (n d : Int) (w : World) (h0 : 1 ≤ d) (hd : d ≤ 9223372036854775807) (hn : -9223372036854775808 ≤ n) (hn' : n ≤ 9223372036854775807) :
    Calls Try.prog 18 #[.int .i64 n, .int .i64 d] w fun e w' => e = .returned (.tuple #[.int .i64 (rup n d), .bool true]) ∧ w = w' := by
  have b0 : (d == 0) = false := by simp; omega
  obtain ⟨q1, q2, q3⟩ := quo_bounds h0 hn hn'
  have m0 := Int.emod_nonneg n (show d ≠ 0 by omega)
  have m1 := Int.emod_lt_of_pos n (show 0 < d by omega)
  have hD := Lib.hid (fun w => rdown_any n d w h0 hd hn hn')
  unfold rup
  by_cases hm : n % d = 0
  · obtain ⟨t1, t2⟩ := tquo_pos h0 (.inr hm)
    rw [if_neg (by omega)]
    rw [hm] at t1
    have e0 : (n.tmod d != 0) = false := by rw [t1]; rfl
    have T := Lib.hid t1
    clear t1 t2 hm m0 m1 q3
    generalize n / d = q at *
    go_enter Try.func18, Try.ntmps18
    go_wp2_with fail
    refine (hD.out _).mono ?_
    rintro e w' ⟨rfl, rfl⟩
    go_wp2
    go_ret2
    exact ⟨rfl, rfl⟩
  · rw [if_pos (by omega)]
    have e0 : (n.tmod d != 0) = true := by
      rw [bne_iff_ne]
      by_cases hs : 0 ≤ n
      · rw [(tquo_pos h0 (.inl hs)).1]; exact hm
      · rw [(tquo_neg h0 (by omega) hm).1]; omega
    have q4 := (q3 hm).1
    have q5 := (q3 hm).2
    clear q3 hm m0 m1
    generalize n / d = q at *
    go_enter Try.func18, Try.ntmps18
    go_wp2_with fail
    refine (hD.out _).mono ?_
    rintro e w' ⟨rfl, rfl⟩
    go_wp2
    go_ret2
    exact ⟨rfl, rfl⟩

set_option maxHeartbeats 1000000 in
theorem rround_any (n d : Int) (w : World) (h0 : 1 ≤ d) (hd : d ≤ 9223372036854775807) (hn : -9223372036854775808 ≤ n) (hn' : n ≤ 9223372036854775807) :
    Calls Try.prog 16 #[.int .i64 n, .int .i64 d] w fun e w' => e = .returned (.tuple #[.int .i64 (rnd n d), .bool true]) ∧ w = w' := by
  have b0 : (d == 0) = false := by simp; omega
  obtain ⟨q1, q2, q3⟩ := quo_bounds h0 hn hn'
  have m0 := Int.emod_nonneg n (show d ≠ 0 by omega)
  have m1 := Int.emod_lt_of_pos n (show 0 < d by omega)
  have hD := Lib.hid (fun w => rdown_any n d w h0 hd hn hn')
  unfold rnd
  by_cases hs : 0 ≤ n ∨ n % d = 0
  · obtain ⟨t1, t2⟩ := tquo_pos h0 hs
    have q4 : n % d ≠ 0 → -4611686018427387905 ≤ n / d := fun h => (q3 h).1
    have q5 : n % d ≠ 0 → n / d ≤ 4611686018427387904 := fun h => (q3 h).2
    clear q3 hs t2
    generalize n / d = q at *
    generalize n % d = r at *
    by_cases hm : d - r ≤ r
    all_goals
      first | rw [if_pos hm] | rw [if_neg hm]
      first | (have q6 : -4611686018427387905 ≤ q := by omega) | skip
      first | (have q7 : q ≤ 4611686018427387904 := by omega) | skip
      clear q4 q5
      go_enter Try.func16, Try.ntmps16
      go_wp2_with fail
      refine (hD.out _).mono ?_
      rintro e w' ⟨rfl, rfl⟩
      go_wp2
      go_ret2
      exact ⟨rfl, rfl⟩
  · have hs1 : n < 0 := by omega
    have hs2 : n % d ≠ 0 := by omega
    obtain ⟨t1, t2⟩ := tquo_neg h0 hs1 hs2
    have q4 := (q3 hs2).1
    have q5 := (q3 hs2).2
    clear q3 hs t2
    generalize n / d = q at *
    generalize n % d = r at *
    have q6 : 0 < r := by omega
    have e1 : r - d + d = r := by omega
    by_cases hm : d - r ≤ r
    all_goals
      first | rw [if_pos hm] | rw [if_neg hm]
      go_enter Try.func16, Try.ntmps16
      go_wp2_with fail
      refine (hD.out _).mono ?_
      rintro e w' ⟨rfl, rfl⟩
      go_wp2
      go_ret2
      exact ⟨rfl, rfl⟩

set_option maxHeartbeats 400000 in
theorem rdown_none (n d : Int) (w : World) (h0 : d < 1) :
    Calls Try.prog 17 #[.int .i64 n, .int .i64 d] w fun e w' => e = .returned (.tuple #[.int .i64 0, .bool false]) ∧ w = w' := by
  go_enter Try.func17, Try.ntmps17
  go_wp2
  go_ret2
  exact ⟨rfl, rfl⟩

set_option maxHeartbeats 400000 in
theorem rup_none (n d : Int) (w : World) (h0 : d < 1) :
    Calls Try.prog 18 #[.int .i64 n, .int .i64 d] w fun e w' => e = .returned (.tuple #[.int .i64 0, .bool false]) ∧ w = w' := by
  go_enter Try.func18, Try.ntmps18
  go_wp2_with fail
  refine (rdown_none _ _ _ h0).mono ?_
  rintro e w' ⟨rfl, rfl⟩
  go_wp2
  go_ret2
  exact ⟨rfl, rfl⟩

set_option maxHeartbeats 400000 in
theorem rround_none (n d : Int) (w : World) (h0 : d < 1) :
    Calls Try.prog 16 #[.int .i64 n, .int .i64 d] w fun e w' => e = .returned (.tuple #[.int .i64 0, .bool false]) ∧ w = w' := by
  go_enter Try.func16, Try.ntmps16
  go_wp2_with fail
  refine (rdown_none _ _ _ h0).mono ?_
  rintro e w' ⟨rfl, rfl⟩
  go_wp2
  go_ret2
  exact ⟨rfl, rfl⟩

set_option maxHeartbeats 400000 in
theorem rsmall_any (n : Int) (w : World) :
    Calls Try.prog 36 #[.int .i64 n] w fun e w' => e = .returned (.bool (sm n)) ∧ w = w' := by
  by_cases h1 : -1048576 ≤ n
  · by_cases h2 : n ≤ 1048576
    · have e : sm n = true := sm_true.2 ⟨h1, h2⟩
      rw [e]; clear e
      go_enter Try.func36, Try.ntmps36
      go_wp2
      go_ret
      exact ⟨rfl, rfl⟩
    · have e : sm n = false := sm_false.2 (by omega)
      rw [e]; clear e
      go_enter Try.func36, Try.ntmps36
      go_wp2
      go_ret
      exact ⟨rfl, rfl⟩
  · have e : sm n = false := sm_false.2 (by omega)
    rw [e]; clear e
    go_enter Try.func36, Try.ntmps36
    go_wp2
    go_ret
    exact ⟨rfl, rfl⟩

set_option maxHeartbeats 400000 in
theorem rcommon_any (a b : Nat) (w : World) (ha : a ≤ 9223372036854775807) (hb : b ≤ 9223372036854775807) :
    Calls Try.prog 37 #[.int .i64 a, .int .i64 b] w fun e w' => e = .returned (.int .i64 (Nat.gcd a b)) ∧ ∃ n, w' = w.drewN n := by
  go_enter Try.func37, Try.ntmps37
  go_wp2
  go_loopw [0, 1] (fun x y wr => ∃ p q : Nat, p ≤ 9223372036854775807 ∧ q ≤ 9223372036854775807 ∧ x = .int .i64 p ∧ y = .int .i64 q ∧ Hid (Nat.gcd p q = Nat.gcd a b) ∧ Hid (∃ n, wr = w.drewN n)) (fun x y _ => (intOf y).toNat)
  case atStart => exact ⟨a, b, ha, hb, rfl, rfl, rfl, ⟨0, rfl⟩⟩
  case round =>
    obtain ⟨p, q, hp, hq, rfl, rfl, hg, hw⟩ := hrel
    by_cases h0 : 0 < q
    · have hg' := gcd_step p q h0
      rw [hg.out] at hg'
      have HG := Lib.hid hg'
      clear hg' hg
      have b0 : ((q : Int) == 0) = false := by simp; omega
      have m := Nat.mod_lt p h0
      have e1 : ((p : Int)).tmod (q : Int) = ((p % q : Nat) : Int) := rfl
      go_wp2
      go_roundw
      case rel => exact ⟨q, p % q, hq, by omega, rfl, rfl, HG.out, hw.out⟩
      case measure => simp [intOf]; omega
    · have hq0 : q = 0 := by omega
      subst hq0
      have hg' := hg.out
      rw [Nat.gcd_zero_right] at hg'
      have HG := Lib.hid hg'
      clear hg' hg
      go_wp2
      go_ret
      exact ⟨ret_int (by rw [HG.out]), hw.out⟩


set_option maxHeartbeats 1000000 in
theorem rright_any (n d : Int) (w : World) :
    Calls Try.prog 39 #[.agg #[.int .i64 n, .int .i64 d]] w fun e w' => e = .returned (.bool (rightB n d)) ∧ Below w.heap.size w w' := by
  by_cases h1 : 1 ≤ d
  · by_cases h2 : d ≤ 262144
    · by_cases h3 : 0 ≤ n
      · by_cases h4 : n ≤ d
        · obtain ⟨a, rfl⟩ := Int.eq_ofNat_of_zero_le h3
          obtain ⟨b, rfl⟩ := Int.eq_ofNat_of_zero_le (show 0 ≤ d by omega)
          by_cases h5 : Nat.gcd a b = 1
          · have hr : rightB (a : Int) (b : Int) = true := by rw [rightB_true]; simp only [Int.toNat_natCast]; exact ⟨h1, h2, h3, h4, h5⟩
            have b1 : (((Nat.gcd a b : Nat) : Int) == 1) = true := by rw [h5]; rfl
            have HR := Lib.hid hr
            have HB := Lib.hid b1
            clear hr b1 h5
            go_enter Try.func39, Try.ntmps39
            go_wp2_with (go_at_call 37; refine (rcommon_any a b _ (by omega) (by omega)).mono ?_; rintro e w' ⟨rfl, ⟨m, rfl⟩⟩)
            go_ret
            exact ⟨ret_bool (by rw [HR.out]; exact HB.out), bdrewN (balloc (Below.refl _ _) _) _⟩
          · have hr : rightB (a : Int) (b : Int) = false := by rw [Bool.eq_false_iff]; intro hh; rw [rightB_true] at hh; simp only [Int.toNat_natCast] at hh; exact h5 hh.2.2.2.2
            have b1 : (((Nat.gcd a b : Nat) : Int) == 1) = false := by rw [beq_eq_false_iff_ne]; omega
            have HR := Lib.hid hr
            have HB := Lib.hid b1
            clear hr b1 h5
            go_enter Try.func39, Try.ntmps39
            go_wp2_with (go_at_call 37; refine (rcommon_any a b _ (by omega) (by omega)).mono ?_; rintro e w' ⟨rfl, ⟨m, rfl⟩⟩)
            go_ret
            exact ⟨ret_bool (by rw [HR.out]; exact HB.out), bdrewN (balloc (Below.refl _ _) _) _⟩
        · have hr : rightB n d = false := by rw [Bool.eq_false_iff]; intro hh; rw [rightB_true] at hh; omega
          have HR := Lib.hid hr
          clear hr
          go_enter Try.func39, Try.ntmps39
          go_wp2
          go_ret
          exact ⟨ret_bool HR.out.symm, balloc (Below.refl _ _) _⟩
      · have hr : rightB n d = false := by rw [Bool.eq_false_iff]; intro hh; rw [rightB_true] at hh; omega
        have HR := Lib.hid hr
        clear hr
        go_enter Try.func39, Try.ntmps39
        go_wp2
        go_ret
        exact ⟨ret_bool HR.out.symm, balloc (Below.refl _ _) _⟩
    · have hr : rightB n d = false := by rw [Bool.eq_false_iff]; intro hh; rw [rightB_true] at hh; omega
      have HR := Lib.hid hr
      clear hr
      go_enter Try.func39, Try.ntmps39
      go_wp2
      go_ret
      exact ⟨ret_bool HR.out.symm, balloc (Below.refl _ _) _⟩
  · have hr : rightB n d = false := by rw [Bool.eq_false_iff]; intro hh; rw [rightB_true] at hh; omega
    have HR := Lib.hid hr
    clear hr
    go_enter Try.func39, Try.ntmps39
    go_wp2
    go_ret
    exact ⟨ret_bool HR.out.symm, balloc (Below.refl _ _) _⟩


set_option maxHeartbeats 1000000 in
theorem rmul_any (a b : Int) (w : World) :
    Calls Try.prog 20 #[.int .i64 a, .int .i64 b] w fun e w' => e = .returned (.tuple #[.int .i64 (mulQ a b), .bool (mulOk a b)]) ∧ w = w' := by
  by_cases ha : sm a = true
  · by_cases hb : sm b = true
    · have hs : mulOk a b = true := by simp [mulOk, ha, hb]
      have hq : mulQ a b = rnd (a * b) 64 := by unfold mulQ; rw [if_pos ⟨ha, hb⟩]
      rw [hq, hs]
      have hab : (-1048576 ≤ a ∧ a ≤ 1048576) ∧ (-1048576 ≤ b ∧ b ≤ 1048576) := ⟨sm_true.1 ha, sm_true.1 hb⟩
      obtain ⟨m1, m2⟩ := mul_bounds hab.1 hab.2
      have HA := Lib.hid ha
      have HB := Lib.hid hb
      clear hs hq hab ha hb
      go_enter Try.func20, Try.ntmps20
      go_wp2_with fail
      refine (rsmall_any _ _).mono ?_
      rintro e w' ⟨rfl, rfl⟩
      rw [HA.out]
      go_wp2_with fail
      refine (rsmall_any _ _).mono ?_
      rintro e w' ⟨rfl, rfl⟩
      rw [HB.out]
      go_wp2_with fail
      refine (rround_any _ _ _ (by omega) (by omega) (by omega) (by omega)).mono ?_
      rintro e w' ⟨rfl, rfl⟩
      go_wp2
      go_ret2
      exact ⟨rfl, rfl⟩
    · have hb : sm b = false := by simpa using hb
      rw [show mulQ a b = 0 by simp [mulQ, hb], show mulOk a b = false by simp [mulOk, hb]]
      have HA := Lib.hid ha
      have HB := Lib.hid hb
      clear ha hb
      go_enter Try.func20, Try.ntmps20
      go_wp2_with fail
      refine (rsmall_any _ _).mono ?_
      rintro e w' ⟨rfl, rfl⟩
      rw [HA.out]
      go_wp2_with fail
      refine (rsmall_any _ _).mono ?_
      rintro e w' ⟨rfl, rfl⟩
      rw [HB.out]
      go_wp2
      go_ret2
      exact ⟨rfl, rfl⟩
  · have ha : sm a = false := by simpa using ha
    rw [show mulQ a b = 0 by simp [mulQ, ha], show mulOk a b = false by simp [mulOk, ha]]
    have HA := Lib.hid ha
    clear ha
    go_enter Try.func20, Try.ntmps20
    go_wp2_with fail
    refine (rsmall_any _ _).mono ?_
    rintro e w' ⟨rfl, rfl⟩
    rw [HA.out]
    go_wp2
    go_ret2
    exact ⟨rfl, rfl⟩

set_option maxHeartbeats 1000000 in
theorem rpart_any (a n d : Int) (w : World) :
    Calls Try.prog 25 #[.int .i64 a, .agg #[.int .i64 n, .int .i64 d]] w fun e w' => e = .returned (.tuple #[.int .i64 (partQ a n d), .bool (partOk a n d)]) ∧ Below w.heap.size w w' := by
  by_cases hs : sm a = true
  · have hs2 := hs
    have ha := sm_true.1 hs
    by_cases hr : rightB n d = true
    · have hok : partOk a n d = true := by simp [partOk, hs, hr]
      have hq : partQ a n d = rnd (64 * a * n) d := by unfold partQ; rw [if_pos hok]
      rw [hq, hok]
      obtain ⟨d1, d2, n1, n2, _⟩ := rightB_true.1 hr
      obtain ⟨m1, m2⟩ := mul_bounds (a := a) (b := n) ha ⟨by omega, by omega⟩
      have e1 : 64 * a * n = 64 * (a * n) := by rw [Int.mul_assoc]
      have m3 : -70368744177664 ≤ 64 * a * n := by omega
      have m4 : 64 * a * n ≤ 70368744177664 := by omega
      have HS := Lib.hid hs2
      have HR := Lib.hid hr
      clear hs hs2 hq hok hr e1 m1 m2
      obtain ⟨a1, a2⟩ := ha
      go_enter Try.func25, Try.ntmps25
      go_wp2_with fail
      refine (rsmall_any _ _).mono ?_
      rintro e w' ⟨rfl, rfl⟩
      rw [HS.out]
      go_wp2_with fail
      refine (rright_any _ _ _).mono ?_
      rintro e w1 ⟨rfl, hb1⟩
      rw [HR.out]
      obtain ⟨hc, hf⟩ := bcell hb1
      go_wp2_with fail
      refine (rround_any _ _ _ (by omega) (by omega) (by omega) (by omega)).mono ?_
      rintro e w2 ⟨rfl, rfl⟩
      go_wp2
      go_ret2
      exact ⟨rfl, bthen' (balloc (Below.refl _ _) _) hb1⟩
    · have hr : rightB n d = false := by simpa using hr
      have hok : partOk a n d = false := by simp [partOk, hs, hr]
      have hq : partQ a n d = 0 := by unfold partQ; rw [if_neg (by simp [hok])]
      rw [hq, hok]
      have HS := Lib.hid hs2
      have HR := Lib.hid hr
      clear hs hs2 hq hok hr
      go_enter Try.func25, Try.ntmps25
      go_wp2_with fail
      refine (rsmall_any _ _).mono ?_
      rintro e w' ⟨rfl, rfl⟩
      rw [HS.out]
      go_wp2_with fail
      refine (rright_any _ _ _).mono ?_
      rintro e w1 ⟨rfl, hb1⟩
      rw [HR.out]
      go_wp2
      go_ret2
      exact ⟨rfl, bthen' (balloc (Below.refl _ _) _) hb1⟩
  · have hs : sm a = false := by simpa using hs
    have hs2 := hs
    have hok : partOk a n d = false := by simp [partOk, hs]
    have hq : partQ a n d = 0 := by unfold partQ; rw [if_neg (by simp [hok])]
    rw [hq, hok]
    have HS := Lib.hid hs2
    clear hs hs2 hq hok
    go_enter Try.func25, Try.ntmps25
    go_wp2_with fail
    refine (rsmall_any _ _).mono ?_
    rintro e w' ⟨rfl, rfl⟩
    rw [HS.out]
    go_wp2
    go_ret2
    exact ⟨rfl, balloc (Below.refl _ _) _⟩


set_option maxHeartbeats 1000000 in
theorem rclamp_any (a l h : Int) (w : World) :
    Calls Try.prog 22 #[.int .i64 a, .int .i64 l, .int .i64 h] w fun e w' => e = .returned (.int .i64 (clampI a l h)) ∧ w = w' := by
  by_cases c1 : h < a
  · by_cases c2 : l < h
    · have e : clampI a l h = h := by unfold clampI; omega
      rw [e]; clear e
      go_enter Try.func22, Try.ntmps22
      go_wp2
      go_ret
      exact ⟨rfl, rfl⟩
    · have e : clampI a l h = l := by unfold clampI; omega
      rw [e]; clear e
      go_enter Try.func22, Try.ntmps22
      go_wp2
      go_ret
      exact ⟨rfl, rfl⟩
  · by_cases c2 : l < a
    · have e : clampI a l h = a := by unfold clampI; omega
      rw [e]; clear e
      go_enter Try.func22, Try.ntmps22
      go_wp2
      go_ret
      exact ⟨rfl, rfl⟩
    · have e : clampI a l h = l := by unfold clampI; omega
      rw [e]; clear e
      go_enter Try.func22, Try.ntmps22
      go_wp2
      go_ret
      exact ⟨rfl, rfl⟩


end Go.Proofs.Ytkdcbinaglidoaa
