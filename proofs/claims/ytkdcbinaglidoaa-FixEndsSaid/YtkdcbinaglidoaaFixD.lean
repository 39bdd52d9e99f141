/- Contracts of Line and Times of package fix. -/
import Derived.Test.YtkdcbinaglidoaaFixC
import Derived.RegionTactic
import Derived.ChangeAlike
set_option linter.unusedVariables false
set_option linter.unusedSimpArgs false
namespace Go.Proofs.Ytkdcbinaglidoaa
open Go.RowKit

theorem rnd_bounds {n d M : Int} (hd : 1 ≤ d) (h1 : -M ≤ n) (h2 : n ≤ M) : -M - 1 ≤ rnd n d ∧ rnd n d ≤ M + 1 := by
  have e := Int.emod_add_mul_ediv n d
  have m0 := Int.emod_nonneg n (show d ≠ 0 by omega)
  have m1 := Int.emod_lt_of_pos n (show 0 < d by omega)
  have a1 : -M ≤ n / d := by
    apply Decidable.byContradiction; intro h
    have : d * (n / d) ≤ d * (-M - 1) := Int.mul_le_mul_of_nonneg_left (by omega) (by omega)
    have : d * (-M - 1) ≤ 1 * (-M - 1) := Int.mul_le_mul_of_nonpos_right (by omega) (by omega)
    have : d * (-M - 1) = - (d * M) - d := by rw [Int.mul_sub, Int.mul_neg]; omega
    have : 1 * M ≤ d * M := Int.mul_le_mul_of_nonneg_right (by omega) (by omega)
    omega
  have a2 : n / d ≤ M := by
    apply Decidable.byContradiction; intro h
    have : d * (M + 1) ≤ d * (n / d) := Int.mul_le_mul_of_nonneg_left (by omega) (by omega)
    have : 1 * (M + 1) ≤ d * (M + 1) := Int.mul_le_mul_of_nonneg_right (by omega) (by omega)
    omega
  unfold rnd
  split <;> omega

theorem mul_bounds' {a b A B : Int} (ha : -A ≤ a ∧ a ≤ A) (hb : -B ≤ b ∧ b ≤ B) : -(A * B) ≤ a * b ∧ a * b ≤ A * B := by
  obtain ⟨a1, a2⟩ := ha
  obtain ⟨b1, b2⟩ := hb
  have hA : 0 ≤ A := by omega
  have hB : 0 ≤ B := by omega
  have key : ∀ x : Int, 0 ≤ x → x ≤ A → -(A * B) ≤ x * b ∧ x * b ≤ A * B := by
    intro x h h'
    have x1 : x * b ≤ x * B := Int.mul_le_mul_of_nonneg_left b2 h
    have x2 : x * (-B) ≤ x * b := Int.mul_le_mul_of_nonneg_left b1 h
    have x3 : x * B ≤ A * B := Int.mul_le_mul_of_nonneg_right h' hB
    rw [Int.mul_neg] at x2
    omega
  rcases Int.le_total 0 a with h | h
  · exact key a h a2
  · have := key (-a) (by omega) (by omega)
    simp only [Int.neg_mul] at this
    omega

/-- Line -/
def lineOk (x fx fy tx ty : Int) : Bool := [x, fx, fy, tx, ty].all sm && decide (fx < tx ∧ fx ≤ x ∧ x ≤ tx)
def lineQ (x fx fy tx ty : Int) : Int := if lineOk x fx fy tx ty = true then fy + rnd ((x - fx) * (ty - fy)) (tx - fx) else 0

theorem pair_ok {a b : Int} {c d : Bool} (h : a = b) (h' : c = d) : Ending.returned (.tuple #[.int .i64 a, .bool c]) = .returned (.tuple #[.int .i64 b, .bool d]) := by rw [h, h']

set_option maxHeartbeats 2000000 in
theorem line_any (x fx fy tx ty : Int) (w : World) :
    Calls Try.prog 28 #[.int .i64 x, .agg #[.int .i64 fx, .int .i64 fy], .agg #[.int .i64 tx, .int .i64 ty]] w fun e w' => e = .returned (.tuple #[.int .i64 (lineQ x fx fy tx ty), .bool (lineOk x fx fy tx ty)]) ∧ Below w.heap.size w w' := by
  by_cases hs : [x, fx, fy, tx, ty].all sm = true
  · have hb : (-1048576 ≤ x ∧ x ≤ 1048576) ∧ (-1048576 ≤ fx ∧ fx ≤ 1048576) ∧ (-1048576 ≤ fy ∧ fy ≤ 1048576) ∧ (-1048576 ≤ tx ∧ tx ≤ 1048576) ∧ (-1048576 ≤ ty ∧ ty ≤ 1048576) := by
      simp only [List.all_cons, List.all_nil, Bool.and_true, Bool.and_eq_true, sm_true] at hs; exact hs
    obtain ⟨⟨x1, x2⟩, ⟨f1, f2⟩, ⟨g1, g2⟩, ⟨t1, t2⟩, ⟨u1, u2⟩⟩ := hb
    by_cases hd : fx < tx ∧ fx ≤ x ∧ x ≤ tx
    · have hok : lineOk x fx fy tx ty = true := by unfold lineOk; rw [hs]; simp; exact hd
      have hq : lineQ x fx fy tx ty = fy + rnd ((x - fx) * (ty - fy)) (tx - fx) := by unfold lineQ; rw [if_pos hok]
      rw [hq, hok]
      obtain ⟨d1, d2, d3⟩ := hd
      have hm := mul_bounds' (a := x - fx) (b := ty - fy) (A := 2097152) (B := 2097152) ⟨by omega, by omega⟩ ⟨by omega, by omega⟩
      have m1 : -4398046511104 ≤ (x - fx) * (ty - fy) := by omega
      have m2 : (x - fx) * (ty - fy) ≤ 4398046511104 := by omega
      obtain ⟨r1, r2⟩ := rnd_bounds (d := tx - fx) (by omega) m1 m2
      have HS := Lib.hid hs
      clear hs hq hok hm
      go_enter Try.func28, Try.ntmps28
      go_wp2_with fail
      refine (small_new [x, fx, fy, tx, ty] _ _ _ _ _ _ rfl (by simp) rfl (by simp)).mono ?_
      rintro e w' ⟨rfl, rfl⟩
      rw [HS.out]
      go_wp2_with fail
      refine (round_any _ _ _ (by omega) (by omega) (by omega) (by omega)).mono ?_
      rintro e w1 ⟨rfl, hb1⟩
      obtain ⟨hc, hf⟩ := bcell hb1
      go_wp2
      go_ret2
      exact ⟨rfl, bthen' (balloc (balloc (balloc (Below.refl _ _) _) _) _) hb1⟩
    · have hok : lineOk x fx fy tx ty = false := by unfold lineOk; rw [hs]; simp; omega
      have hq : lineQ x fx fy tx ty = 0 := by unfold lineQ; rw [if_neg (by simp [hok])]
      rw [hq, hok]
      have HS := Lib.hid hs
      clear hs hq hok
      by_cases d1 : fx < tx
      · by_cases d2 : fx ≤ x
        · have d3 : ¬ x ≤ tx := fun h => hd ⟨d1, d2, h⟩
          clear hd
          go_enter Try.func28, Try.ntmps28
          go_wp2_with fail
          refine (small_new [x, fx, fy, tx, ty] _ _ _ _ _ _ rfl (by simp) rfl (by simp)).mono ?_
          rintro e w' ⟨rfl, rfl⟩
          rw [HS.out]
          go_wp2
          go_ret2
          exact ⟨rfl, balloc (balloc (balloc (Below.refl _ _) _) _) _⟩
        · clear hd
          go_enter Try.func28, Try.ntmps28
          go_wp2_with fail
          refine (small_new [x, fx, fy, tx, ty] _ _ _ _ _ _ rfl (by simp) rfl (by simp)).mono ?_
          rintro e w' ⟨rfl, rfl⟩
          rw [HS.out]
          go_wp2
          go_ret2
          exact ⟨rfl, balloc (balloc (balloc (Below.refl _ _) _) _) _⟩
      · clear hd
        go_enter Try.func28, Try.ntmps28
        go_wp2_with fail
        refine (small_new [x, fx, fy, tx, ty] _ _ _ _ _ _ rfl (by simp) rfl (by simp)).mono ?_
        rintro e w' ⟨rfl, rfl⟩
        rw [HS.out]
        go_wp2
        go_ret2
        exact ⟨rfl, balloc (balloc (balloc (Below.refl _ _) _) _) _⟩
  · have hs : [x, fx, fy, tx, ty].all sm = false := by simpa only [Bool.not_eq_true] using hs
    have hok : lineOk x fx fy tx ty = false := by unfold lineOk; rw [hs]; rfl
    have hq : lineQ x fx fy tx ty = 0 := by unfold lineQ; rw [if_neg (by simp [hok])]
    rw [hq, hok]
    have HS := Lib.hid hs
    clear hs hq hok
    go_enter Try.func28, Try.ntmps28
    go_wp2_with fail
    refine (small_new [x, fx, fy, tx, ty] _ _ _ _ _ _ rfl (by simp) rfl (by simp)).mono ?_
    rintro e w' ⟨rfl, rfl⟩
    rw [HS.out]
    go_wp2
    go_ret2
    exact ⟨rfl, balloc (balloc (balloc (Below.refl _ _) _) _) _⟩

end Go.Proofs.Ytkdcbinaglidoaa
