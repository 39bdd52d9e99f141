/- Contracts of right, Mul, Part, Clamp of package fix. -/
import Derived.Test.YtkdcbinaglidoaaFixB
set_option linter.unusedVariables false
set_option linter.unusedSimpArgs false
namespace Go.Proofs.Ytkdcbinaglidoaa
open Go.RowKit

/-- a scalar is right -/
def rightB (n d : Int) : Bool := decide (1 ≤ d ∧ d ≤ 262144 ∧ 0 ≤ n ∧ n ≤ d ∧ Nat.gcd n.toNat d.toNat = 1)

theorem rightB_true {n d : Int} : rightB n d = true ↔ 1 ≤ d ∧ d ≤ 262144 ∧ 0 ≤ n ∧ n ≤ d ∧ Nat.gcd n.toNat d.toNat = 1 := by simp [rightB]

set_option maxHeartbeats 1000000 in
theorem right_any (n d : Int) (w : World) :
    Calls Try.prog 38 #[.agg #[.int .i64 n, .int .i64 d]] w fun e w' => e = .returned (.bool (rightB n d)) ∧ Below w.heap.size w w' := by
  by_cases h1 : 1 ≤ d
  · by_cases h2 : d ≤ 262144
    · by_cases h3 : 0 ≤ n
      · by_cases h4 : n ≤ d
        · obtain ⟨a, rfl⟩ := Int.eq_ofNat_of_zero_le h3
          obtain ⟨b, rfl⟩ := Int.eq_ofNat_of_zero_le (show 0 ≤ d by omega)
          by_cases h5 : Nat.gcd a b = 1
          · have hr : rightB (a : Int) (b : Int) = true := by rw [rightB_true]; simp only [Int.toNat_natCast]; exact ⟨h1, h2, h3, h4, h5⟩
            have b1 : (((Nat.gcd a b : Nat) : Int) == 1) = true := by rw [h5]; rfl
            have HR := Lib.hid hr
            have HB := Lib.hid b1
            clear hr b1 h5
            go_enter Try.func38, Try.ntmps38
            go_wp2_with (go_at_call 41; refine (common_any a b _ (by omega) (by omega)).mono ?_; rintro e w' ⟨rfl, ⟨m, rfl⟩⟩)
            go_ret
            exact ⟨ret_bool (by rw [HR.out]; exact HB.out), bdrewN (balloc (Below.refl _ _) _) _⟩
          · have hr : rightB (a : Int) (b : Int) = false := by rw [Bool.eq_false_iff]; intro hh; rw [rightB_true] at hh; simp only [Int.toNat_natCast] at hh; exact h5 hh.2.2.2.2
            have b1 : (((Nat.gcd a b : Nat) : Int) == 1) = false := by rw [beq_eq_false_iff_ne]; omega
            have HR := Lib.hid hr
            have HB := Lib.hid b1
            clear hr b1 h5
            go_enter Try.func38, Try.ntmps38
            go_wp2_with (go_at_call 41; refine (common_any a b _ (by omega) (by omega)).mono ?_; rintro e w' ⟨rfl, ⟨m, rfl⟩⟩)
            go_ret
            exact ⟨ret_bool (by rw [HR.out]; exact HB.out), bdrewN (balloc (Below.refl _ _) _) _⟩
        · have hr : rightB n d = false := by rw [Bool.eq_false_iff]; intro hh; rw [rightB_true] at hh; omega
          have HR := Lib.hid hr
          clear hr
          go_enter Try.func38, Try.ntmps38
          go_wp2
          go_ret
          exact ⟨ret_bool HR.out.symm, balloc (Below.refl _ _) _⟩
      · have hr : rightB n d = false := by rw [Bool.eq_false_iff]; intro hh; rw [rightB_true] at hh; omega
        have HR := Lib.hid hr
        clear hr
        go_enter Try.func38, Try.ntmps38
        go_wp2
        go_ret
        exact ⟨ret_bool HR.out.symm, balloc (Below.refl _ _) _⟩
    · have hr : rightB n d = false := by rw [Bool.eq_false_iff]; intro hh; rw [rightB_true] at hh; omega
      have HR := Lib.hid hr
      clear hr
      go_enter Try.func38, Try.ntmps38
      go_wp2
      go_ret
      exact ⟨ret_bool HR.out.symm, balloc (Below.refl _ _) _⟩
  · have hr : rightB n d = false := by rw [Bool.eq_false_iff]; intro hh; rw [rightB_true] at hh; omega
    have HR := Lib.hid hr
    clear hr
    go_enter Try.func38, Try.ntmps38
    go_wp2
    go_ret
    exact ⟨ret_bool HR.out.symm, balloc (Below.refl _ _) _⟩

/-- Mul -/
def mulQ (a b : Int) : Int := if sm a = true ∧ sm b = true then rnd (a * b) 64 else 0
def mulOk (a b : Int) : Bool := sm a && sm b

theorem mul_bounds {a b : Int} (ha : -1048576 ≤ a ∧ a ≤ 1048576) (hb : -1048576 ≤ b ∧ b ≤ 1048576) : -1099511627776 ≤ a * b ∧ a * b ≤ 1099511627776 := by
  obtain ⟨a1, a2⟩ := ha
  obtain ⟨b1, b2⟩ := hb
  rcases Int.le_total 0 a with h | h
  · have x1 : a * b ≤ a * 1048576 := Int.mul_le_mul_of_nonneg_left b2 h
    have x2 : a * (-1048576) ≤ a * b := Int.mul_le_mul_of_nonneg_left b1 h
    omega
  · have x1 : (-a) * b ≤ (-a) * 1048576 := Int.mul_le_mul_of_nonneg_left b2 (by omega)
    have x2 : (-a) * (-1048576) ≤ (-a) * b := Int.mul_le_mul_of_nonneg_left b1 (by omega)
    simp only [Int.neg_mul] at x1 x2
    omega

set_option maxHeartbeats 1000000 in
theorem mul_any (a b : Int) (w : World) :
    Calls Try.prog 19 #[.int .i64 a, .int .i64 b] w fun e w' => e = .returned (.tuple #[.int .i64 (mulQ a b), .bool (mulOk a b)]) ∧ Below w.heap.size w w' := by
  by_cases hs : mulOk a b = true
  · have hs2 : [a, b].all sm = true := by simpa [mulOk] using hs
    have hq : mulQ a b = rnd (a * b) 64 := by unfold mulQ; rw [if_pos (by simpa [mulOk] using hs)]
    rw [hq, hs]
    have hab : (-1048576 ≤ a ∧ a ≤ 1048576) ∧ (-1048576 ≤ b ∧ b ≤ 1048576) := by simp [mulOk] at hs; exact ⟨sm_true.1 hs.1, sm_true.1 hs.2⟩
    obtain ⟨m1, m2⟩ := mul_bounds hab.1 hab.2
    have HS := Lib.hid hs2
    clear hs hs2 hq hab
    go_enter Try.func19, Try.ntmps19
    go_wp2_with (first | (go_at_call 35; refine (small_new [a, b] _ _ _ _ _ _ rfl (by simp) rfl rfl).mono ?_; rintro e w' ⟨rfl, rfl⟩; rw [HS.out]) | (go_at_call 13; refine (round_any _ _ _ (by omega) (by omega) (by omega) (by omega)).mono ?_; rintro e w' ⟨rfl, hb⟩))
    go_ret2
    exact ⟨rfl, bthen' (balloc (Below.refl _ _) _) hb⟩
  · have hs : mulOk a b = false := by simpa using hs
    have hs2 : [a, b].all sm = false := by simpa [mulOk] using hs
    have hq : mulQ a b = 0 := by unfold mulQ; rw [if_neg (by simpa [mulOk] using hs)]
    rw [hq, hs]
    have HS := Lib.hid hs2
    clear hs hs2 hq
    go_enter Try.func19, Try.ntmps19
    go_wp2_with (first | (go_at_call 35; refine (small_new [a, b] _ _ _ _ _ _ rfl (by simp) rfl rfl).mono ?_; rintro e w' ⟨rfl, rfl⟩; rw [HS.out]))
    go_ret2
    exact ⟨rfl, balloc (Below.refl _ _) _⟩

/-- Part -/
def partOk (a n d : Int) : Bool := sm a && rightB n d
def partQ (a n d : Int) : Int := if partOk a n d = true then rnd (64 * a * n) d else 0

set_option maxHeartbeats 1000000 in
theorem part_any (a n d : Int) (w : World) :
    Calls Try.prog 24 #[.int .i64 a, .agg #[.int .i64 n, .int .i64 d]] w fun e w' => e = .returned (.tuple #[.int .i64 (partQ a n d), .bool (partOk a n d)]) ∧ Below w.heap.size w w' := by
  by_cases hs : sm a = true
  · have hs2 : [a].all sm = true := by simpa using hs
    have ha := sm_true.1 hs
    by_cases hr : rightB n d = true
    · have hok : partOk a n d = true := by simp [partOk, hs, hr]
      have hq : partQ a n d = rnd (64 * a * n) d := by unfold partQ; rw [if_pos hok]
      rw [hq, hok]
      obtain ⟨d1, d2, n1, n2, _⟩ := rightB_true.1 hr
      obtain ⟨m1, m2⟩ := mul_bounds (a := a) (b := n) ha ⟨by omega, by omega⟩
      have e1 : 64 * a * n = 64 * (a * n) := by rw [Int.mul_assoc]
      have m3 : -70368744177664 ≤ 64 * a * n := by omega
      have m4 : 64 * a * n ≤ 70368744177664 := by omega
      have HS := Lib.hid hs2
      have HR := Lib.hid hr
      clear hs hs2 hq hok hr e1 m1 m2
      obtain ⟨a1, a2⟩ := ha
      go_enter Try.func24, Try.ntmps24
      go_wp2_with fail
      refine (small_new [a] _ _ _ _ _ _ rfl (by simp) rfl (by simp)).mono ?_
      rintro e w' ⟨rfl, rfl⟩
      rw [HS.out]
      go_wp2_with fail
      refine (right_any _ _ _).mono ?_
      rintro e w1 ⟨rfl, hb1⟩
      rw [HR.out]
      obtain ⟨hc, hf⟩ := bcell hb1
      go_wp2_with fail
      refine (round_any _ _ _ (by omega) (by omega) (by omega) (by omega)).mono ?_
      rintro e w2 ⟨rfl, hb2⟩
      go_wp2
      go_ret2
      exact ⟨rfl, bthen' (bthen' (balloc (balloc (Below.refl _ _) _) _) hb1) hb2⟩
    · have hr : rightB n d = false := by simpa using hr
      have hok : partOk a n d = false := by simp [partOk, hs, hr]
      have hq : partQ a n d = 0 := by unfold partQ; rw [if_neg (by simp [hok])]
      rw [hq, hok]
      have HS := Lib.hid hs2
      have HR := Lib.hid hr
      clear hs hs2 hq hok hr
      go_enter Try.func24, Try.ntmps24
      go_wp2_with fail
      refine (small_new [a] _ _ _ _ _ _ rfl (by simp) rfl (by simp)).mono ?_
      rintro e w' ⟨rfl, rfl⟩
      rw [HS.out]
      go_wp2_with fail
      refine (right_any _ _ _).mono ?_
      rintro e w1 ⟨rfl, hb1⟩
      rw [HR.out]
      go_wp2
      go_ret2
      exact ⟨rfl, bthen' (balloc (balloc (Below.refl _ _) _) _) hb1⟩
  · have hs : sm a = false := by simpa using hs
    have hs2 : [a].all sm = false := by simpa using hs
    have hok : partOk a n d = false := by simp [partOk, hs]
    have hq : partQ a n d = 0 := by unfold partQ; rw [if_neg (by simp [hok])]
    rw [hq, hok]
    have HS := Lib.hid hs2
    clear hs hs2 hq hok
    go_enter Try.func24, Try.ntmps24
    go_wp2_with fail
    refine (small_new [a] _ _ _ _ _ _ rfl (by simp) rfl (by simp)).mono ?_
    rintro e w' ⟨rfl, rfl⟩
    rw [HS.out]
    go_wp2
    go_ret2
    exact ⟨rfl, balloc (balloc (Below.refl _ _) _) _⟩

/-- Clamp -/
def clampI (a l h : Int) : Int := max l (min a h)
theorem clampI_eq (a l h : Int) : clampI a l h = if l < (if h < a then h else a) then (if h < a then h else a) else l := by
  unfold clampI; split <;> split <;> omega

set_option maxHeartbeats 1000000 in
theorem clamp_any (a l h : Int) (w : World) :
    Calls Try.prog 21 #[.int .i64 a, .int .i64 l, .int .i64 h] w fun e w' => e = .returned (.int .i64 (clampI a l h)) ∧ w = w' := by
  by_cases c1 : h < a
  · by_cases c2 : l < h
    · have e : clampI a l h = h := by unfold clampI; omega
      rw [e]; clear e
      go_enter Try.func21, Try.ntmps21
      go_wp2
      go_ret
      exact ⟨rfl, rfl⟩
    · have e : clampI a l h = l := by unfold clampI; omega
      rw [e]; clear e
      go_enter Try.func21, Try.ntmps21
      go_wp2
      go_ret
      exact ⟨rfl, rfl⟩
  · by_cases c2 : l < a
    · have e : clampI a l h = a := by unfold clampI; omega
      rw [e]; clear e
      go_enter Try.func21, Try.ntmps21
      go_wp2
      go_ret
      exact ⟨rfl, rfl⟩
    · have e : clampI a l h = l := by unfold clampI; omega
      rw [e]; clear e
      go_enter Try.func21, Try.ntmps21
      go_wp2
      go_ret
      exact ⟨rfl, rfl⟩

end Go.Proofs.Ytkdcbinaglidoaa
