/- Ba1: merged by wip/prune.py. -/
import Derived.Lib.Mul64
import Derived.Laws.Bits64b
import Derived.BigQuiet
import Derived.Deep.DeepCutAuto
import Derived.Test.YtleljodcdbhifaaDoorFi0
/- Merged by wip/rebase.py: ScRt, ScM, ScGeo, Hy2, ScCounts, ScCount2, ScCount3, Hy3. -/
/- The sign of p + q times a square root, in plain Lean. -/
set_option linter.unusedVariables false
set_option linter.unusedSimpArgs false
namespace Go.Proofs.YtleljodcdbhifaaDoor
def sg (n : Int) : Int := if n < 0 then -1 else if 0 < n then 1 else 0
/-- the sign of p + q * root d, for d not negative -/
def rt (p q d : Int) : Int :=
  if sg p = (if d = 0 then 0 else sg q) ∨ (if d = 0 then 0 else sg q) = 0 then sg p
  else if sg p = 0 then (if d = 0 then 0 else sg q)
  else if p * p = q * q * d then 0
  else if q * q * d < p * p then sg p else (if d = 0 then 0 else sg q)
/-- p + q * root d is not negative -/
def NN (d p q : Int) : Prop := (0 ≤ p ∧ q * q * d ≤ p * p) ∨ (0 ≤ q ∧ p * p ≤ q * q * d)
theorem sg_pos {n : Int} (h : 0 < n) : sg n = 1 := by unfold sg; rw [if_neg (by omega), if_pos h]
theorem sg_neg {n : Int} (h : n < 0) : sg n = -1 := by unfold sg; rw [if_pos h]
theorem sg_zero : sg 0 = 0 := rfl
theorem sg_cases (n : Int) : (n < 0 ∧ sg n = -1) ∨ (n = 0 ∧ sg n = 0) ∨ (0 < n ∧ sg n = 1) := by
  unfold sg; omega
theorem sg_opp (n : Int) : sg (-n) = - sg n := by unfold sg; omega
theorem sq_nn (a : Int) : 0 ≤ a * a := by
  rcases Int.le_total 0 a with h | h
  · exact Int.mul_nonneg h h
  · exact Int.mul_nonneg_of_nonpos_of_nonpos h h
theorem sq_pos {a : Int} (h : a ≠ 0) : 0 < a * a := by
  have := sq_nn a
  have h2 : a * a ≠ 0 := fun e => by rcases Int.mul_eq_zero.1 e with e | e <;> exact h e
  omega
theorem neg_sq (a : Int) : (-a) * (-a) = a * a := by rw [Int.neg_mul_neg]
theorem sq_lt {a b : Int} (hb : 0 ≤ b) (h : b < a) : b * b < a * a := Int.mul_self_lt_mul_self hb h
theorem sq_le {a b : Int} (hb : 0 ≤ b) (h : b ≤ a) : b * b ≤ a * a := Int.mul_self_le_mul_self hb h
theorem of_sq_le {a b : Int} (hb : 0 ≤ b) (h : a * a ≤ b * b) : a ≤ b ∧ -b ≤ a := by
  constructor
  · rcases Int.lt_or_le b a with h1 | h1
    · have := sq_lt hb h1; omega
    · exact h1
  · rcases Int.lt_or_le a (-b) with h1 | h1
    · have := sq_lt hb (show b < -a by omega); rw [neg_sq] at this; omega
    · exact h1
theorem mul_le {a b c d : Int} (h1 : a ≤ b) (h2 : c ≤ d) (h3 : 0 ≤ c) (h4 : 0 ≤ b) : a * c ≤ b * d := Int.mul_le_mul h1 h2 h3 h4
theorem rt_cases (p q d : Int) : rt p q d = -1 ∨ rt p q d = 0 ∨ rt p q d = 1 := by
  have h1 := sg_cases p
  have h2 := sg_cases q
  unfold rt
  (repeat' split) <;> omega
theorem rt_zero_d (p q : Int) : rt p q 0 = sg p := by unfold rt; simp
theorem rt_opp (p q d : Int) : rt (-p) (-q) d = - rt p q d := by
  have h1 := sg_cases p
  have h2 := sg_cases q
  have e1 := sg_opp p
  have e2 := sg_opp q
  by_cases hd : d = 0
  · rw [hd, rt_zero_d, rt_zero_d, e1]
  · unfold rt
    rw [neg_sq, neg_sq, e1, e2]
    simp only [hd, if_false]
    (repeat' split) <;> omega
theorem nn_zero_d {p q : Int} : NN 0 p q ↔ 0 ≤ p := by
  unfold NN
  simp only [Int.mul_zero]
  constructor
  · rintro (h | ⟨h1, h2⟩)
    · exact h.1
    · rcases Int.lt_or_le p 0 with h | h
      · have := sq_pos (show p ≠ 0 by omega); omega
      · exact h
  · intro h
    exact .inl ⟨h, sq_nn p⟩
theorem rt_nn {p q d : Int} (hd : 0 ≤ d) : 0 ≤ rt p q d ↔ NN d p q := by
  by_cases h0 : d = 0
  · subst h0
    rw [nn_zero_d]
    have h1 := sg_cases p
    rw [rt_zero_d]
    omega
  · have hd1 : 0 < d := by omega
    have h1 := sg_cases p
    have h2 := sg_cases q
    unfold rt NN
    simp only [h0, if_false]
    have hq : 0 ≤ q * q * d := Int.mul_nonneg (sq_nn q) hd
    have hp := sq_nn p
    rcases h1 with ⟨a1, b1⟩ | ⟨a1, b1⟩ | ⟨a1, b1⟩ <;> rcases h2 with ⟨a2, b2⟩ | ⟨a2, b2⟩ | ⟨a2, b2⟩ <;> rw [b1, b2]
    · simp; omega
    · have hpp := sq_pos (show p ≠ 0 by omega)
      subst a2
      simp; omega
    · have hpp := sq_pos (show p ≠ 0 by omega)
      simp
      (repeat' split) <;> omega
    · have hqq := Int.mul_pos (sq_pos (show q ≠ 0 by omega)) hd1
      subst a1
      simp; omega
    · subst a1 a2; simp
    · subst a1; simp; omega
    · simp
      (repeat' split) <;> omega
    · subst a2
      simp; omega
    · simp; omega
theorem rt_le {p q d : Int} (hd : 0 ≤ d) : rt p q d ≤ 0 ↔ NN d (-p) (-q) := by
  rw [← rt_nn hd, rt_opp]; omega
theorem NN.int {d n : Int} (hd : 0 ≤ d) (h : 0 ≤ n) : NN d n 0 := .inl ⟨h, by have := sq_nn n; simpa using this⟩
theorem NN.of_int {d n : Int} (h : NN d n 0) : 0 ≤ n := by
  rcases h with h | ⟨h1, h2⟩
  · exact h.1
  · simp only [Int.zero_mul] at h2
    rcases Int.lt_or_le n 0 with h | h
    · have := sq_pos (show n ≠ 0 by omega); omega
    · exact h
theorem NN.mul {d p q p' q' : Int} (hd : 0 ≤ d) (h : NN d p q) (k : NN d p' q') : NN d (p * p' + q * q' * d) (p * q' + q * p') := by
  have eN : (p * p' + q * q' * d) * (p * p' + q * q' * d) - (p * q' + q * p') * (p * q' + q * p') * d = (p * p - q * q * d) * (p' * p' - q' * q' * d) := by grind
  rcases h with ⟨h1, h2⟩ | ⟨h1, h2⟩ <;> rcases k with ⟨k1, k2⟩ | ⟨k1, k2⟩
  · left
    refine ⟨?_, ?_⟩
    · have e : (q * q' * d) * (q * q' * d) = (q * q * d) * (q' * q' * d) := by grind
      have hq' : 0 ≤ q' * q' * d := Int.mul_nonneg (sq_nn q') hd
      have := mul_le h2 k2 hq' (sq_nn p)
      rw [← e, show p * p * (p' * p') = (p * p') * (p * p') by grind] at this
      have := of_sq_le (Int.mul_nonneg h1 k1) this
      omega
    · have := Int.mul_nonneg (show 0 ≤ p * p - q * q * d by omega) (show 0 ≤ p' * p' - q' * q' * d by omega)
      omega
  · right
    refine ⟨?_, ?_⟩
    · have hh : (q * p') * (q * p') ≤ (p * q') * (p * q') := by
        have e1 : (q * p') * (q * p') = (q * q) * (p' * p') := by grind
        have e2 : (p * q') * (p * q') = (p * p) * (q' * q') := by grind
        have a1 : (q * q) * (p' * p') ≤ (q * q) * (q' * q' * d) := Int.mul_le_mul_of_nonneg_left k2 (sq_nn q)
        have a2 : (q * q * d) * (q' * q') ≤ (p * p) * (q' * q') := Int.mul_le_mul_of_nonneg_right h2 (sq_nn q')
        have e3 : (q * q) * (q' * q' * d) = (q * q * d) * (q' * q') := by grind
        rw [e1, e2]; rw [e3] at a1; exact Int.le_trans a1 a2
      have := of_sq_le (Int.mul_nonneg h1 k1) hh
      omega
    · have := Int.mul_nonneg (show 0 ≤ p * p - q * q * d by omega) (show 0 ≤ q' * q' * d - p' * p' by omega)
      have e : (p * p - q * q * d) * (q' * q' * d - p' * p') = - ((p * p - q * q * d) * (p' * p' - q' * q' * d)) := by grind
      omega
  · right
    refine ⟨?_, ?_⟩
    · have hh : (p * q') * (p * q') ≤ (q * p') * (q * p') := by
        have e1 : (q * p') * (q * p') = (q * q) * (p' * p') := by grind
        have e2 : (p * q') * (p * q') = (p * p) * (q' * q') := by grind
        have a1 : (p * p) * (q' * q') ≤ (q * q * d) * (q' * q') := Int.mul_le_mul_of_nonneg_right h2 (sq_nn q')
        have a2 : (q * q) * (q' * q' * d) ≤ (q * q) * (p' * p') := Int.mul_le_mul_of_nonneg_left k2 (sq_nn q)
        have e3 : (q * q) * (q' * q' * d) = (q * q * d) * (q' * q') := by grind
        rw [e1, e2]; rw [e3] at a2; exact Int.le_trans a1 a2
      have := of_sq_le (Int.mul_nonneg h1 k1) hh
      omega
    · have := Int.mul_nonneg (show 0 ≤ q * q * d - p * p by omega) (show 0 ≤ p' * p' - q' * q' * d by omega)
      have e : (q * q * d - p * p) * (p' * p' - q' * q' * d) = - ((p * p - q * q * d) * (p' * p' - q' * q' * d)) := by grind
      omega
  · left
    refine ⟨?_, ?_⟩
    · have e : (q * q' * d) * (q * q' * d) = (q * q * d) * (q' * q' * d) := by grind
      have := mul_le h2 k2 (sq_nn p') (Int.le_trans (sq_nn p) h2)
      rw [← e, show p * p * (p' * p') = (p * p') * (p * p') by grind] at this
      have := of_sq_le (Int.mul_nonneg (Int.mul_nonneg h1 k1) hd) this
      omega
    · have := Int.mul_nonneg (show 0 ≤ q * q * d - p * p by omega) (show 0 ≤ q' * q' * d - p' * p' by omega)
      have e : (q * q * d - p * p) * (q' * q' * d - p' * p') = ((p * p - q * q * d) * (p' * p' - q' * q' * d)) := by grind
      omega
/-- a small root less a greater one: from s*s*d ≤ p*p and A*A ≤ t*t*d, p < A follows (A-p)*(A-p) ≤ (t-s)*(t-s)*d and s ≤ t -/
theorem nn_diff {d p s A t : Int} (hd : 0 ≤ d) (hp : 0 ≤ p) (hs : 0 ≤ s) (ht : 0 ≤ t) (h1 : s * s * d ≤ p * p) (h2 : A * A ≤ t * t * d) (h3 : p < A) : s ≤ t ∧ (A - p) * (A - p) ≤ (t - s) * (t - s) * d := by
  have hA : 0 < A := by omega
  have hAA := Int.mul_pos hA hA
  have hd0 : d ≠ 0 := by rintro rfl; simp only [Int.mul_zero] at h2; omega
  have hd1 : 0 < d := by omega
  have hst : s ≤ t := by
    rcases Int.lt_or_le t s with h | h
    · have g1 := sq_le ht (Int.le_of_lt h)
      have g2 := Int.mul_le_mul_of_nonneg_right g1 hd
      have g3 := sq_lt hp h3
      omega
    · exact h
  refine ⟨hst, ?_⟩
  have k1 : (s * A) * (s * A) ≤ (p * t) * (p * t) := by
    have g1 : (s * s * d) * (A * A) ≤ (p * p) * (t * t * d) := mul_le h1 h2 (sq_nn A) (sq_nn p)
    have e1 : (s * s * d) * (A * A) = d * ((s * A) * (s * A)) := by grind
    have e2 : (p * p) * (t * t * d) = d * ((p * t) * (p * t)) := by grind
    rw [e1, e2] at g1
    exact Int.le_of_mul_le_mul_left g1 hd1
  have k2 := (of_sq_le (Int.mul_nonneg hp ht) k1).1
  have k3 : t * (A - p) ≤ (t - s) * A := by
    have e1 : t * (A - p) = t * A - p * t := by grind
    have e2 : (t - s) * A = t * A - s * A := by grind
    omega
  have k4 := sq_le (Int.mul_nonneg ht (show 0 ≤ A - p by omega)) k3
  have k5 := Int.mul_le_mul_of_nonneg_right k4 hd
  have k6 : (A * A) * ((A - p) * (A - p)) ≤ (t * t * d) * ((A - p) * (A - p)) := Int.mul_le_mul_of_nonneg_right h2 (sq_nn _)
  have e3 : (t * (A - p)) * (t * (A - p)) * d = (t * t * d) * ((A - p) * (A - p)) := by grind
  have e4 : ((t - s) * A) * ((t - s) * A) * d = (A * A) * ((t - s) * (t - s) * d) := by grind
  rw [e3, e4] at k5
  exact Int.le_of_mul_le_mul_left (Int.le_trans k6 k5) hAA
theorem NN.add12 {d p q p' q' : Int} (hd : 0 ≤ d) (h1 : 0 ≤ p) (h2 : q * q * d ≤ p * p) (k1 : 0 ≤ q') (k2 : p' * p' ≤ q' * q' * d) : NN d (p + p') (q + q') := by
  rcases Int.lt_or_le (p + p') 0 with hP | hP
  · -- p' < -p
    right
    rcases Int.le_total 0 q with hq | hq
    · refine ⟨by omega, ?_⟩
      have g1 := sq_le k1 (show q' ≤ q + q' by omega)
      have g2 := Int.mul_le_mul_of_nonneg_right g1 hd
      have g3 := sq_le (show 0 ≤ -(p + p') by omega) (show -(p + p') ≤ -p' by omega)
      rw [neg_sq, neg_sq] at g3
      omega
    · have g := nn_diff (d := d) (p := p) (s := -q) (A := -p') (t := q') hd h1 (by omega) k1 (by rw [neg_sq]; exact h2) (by rw [neg_sq]; exact k2) (by omega)
      refine ⟨by omega, ?_⟩
      have e1 : (-p' - p) * (-p' - p) = (p + p') * (p + p') := by grind
      have e2 : (q' - -q) * (q' - -q) = (q + q') * (q + q') := by grind
      rw [e1, e2] at g
      exact g.2
  · rcases Int.lt_or_le (q + q') 0 with hQ | hQ
    · -- q < -q'
      left
      refine ⟨hP, ?_⟩
      have hs : 0 ≤ -q := by omega
      rcases Int.le_total 0 p' with hp' | hp'
      · have g1 := sq_le h1 (show p ≤ p + p' by omega)
        have g2 := sq_le (show 0 ≤ -(q + q') by omega) (show -(q + q') ≤ -q by omega)
        rw [neg_sq, neg_sq] at g2
        have g3 := Int.mul_le_mul_of_nonneg_right g2 hd
        omega
      · -- both differences
        by_cases hd0 : d = 0
        · subst hd0
          have := sq_nn (p + p')
          simp only [Int.mul_zero]
          exact this
        have hd1 : 0 < d := by omega
        have hqpos : 0 < -q := by omega
        -- (-p') * (-q) ≤ p * q'
        have c1 : ((-p') * (-q)) * ((-p') * (-q)) ≤ (p * q') * (p * q') := by
          have a1 : (p' * p') * (q * q) ≤ (q' * q' * d) * (q * q) := Int.mul_le_mul_of_nonneg_right k2 (sq_nn q)
          have a2 : (q' * q') * (q * q * d) ≤ (q' * q') * (p * p) := Int.mul_le_mul_of_nonneg_left h2 (sq_nn q')
          have e1 : ((-p') * (-q)) * ((-p') * (-q)) = (p' * p') * (q * q) := by grind
          have e2 : (p * q') * (p * q') = (q' * q') * (p * p) := by grind
          have e3 : (q' * q' * d) * (q * q) = (q' * q') * (q * q * d) := by grind
          rw [e1, e2]; rw [e3] at a1; exact Int.le_trans a1 a2
        have c2 := (of_sq_le (Int.mul_nonneg h1 k1) c1).1
        -- p * (-q - q') ≤ (p + p') * (-q)
        have c3 : p * (-q - q') ≤ (p + p') * (-q) := by
          have e1 : p * (-q - q') = p * (-q) - p * q' := by grind
          have e2 : (p + p') * (-q) = p * (-q) - (-p') * (-q) := by grind
          omega
        have c4 := sq_le (Int.mul_nonneg h1 (show 0 ≤ -q - q' by omega)) c3
        have c5 : (q * q * d) * ((-q - q') * (-q - q')) ≤ (p * p) * ((-q - q') * (-q - q')) := Int.mul_le_mul_of_nonneg_right h2 (sq_nn _)
        have e4 : (p * (-q - q')) * (p * (-q - q')) = (p * p) * ((-q - q') * (-q - q')) := by grind
        have e5 : ((p + p') * (-q)) * ((p + p') * (-q)) = (q * q) * ((p + p') * (p + p')) := by grind
        have e6 : (q * q * d) * ((-q - q') * (-q - q')) = (q * q) * ((q + q') * (q + q') * d) := by grind
        rw [e4, e5] at c4
        rw [e6] at c5
        exact Int.le_of_mul_le_mul_left (Int.le_trans c5 c4) (sq_pos (show q ≠ 0 by omega))
    · unfold NN
      omega
theorem NN.add {d p q p' q' : Int} (hd : 0 ≤ d) (h : NN d p q) (k : NN d p' q') : NN d (p + p') (q + q') := by
  rcases h with ⟨h1, h2⟩ | ⟨h1, h2⟩ <;> rcases k with ⟨k1, k2⟩ | ⟨k1, k2⟩
  · left
    refine ⟨by omega, ?_⟩
    have e : (q * q' * d) * (q * q' * d) = (q * q * d) * (q' * q' * d) := by grind
    have g := mul_le h2 k2 (Int.mul_nonneg (sq_nn q') hd) (sq_nn p)
    rw [← e, show p * p * (p' * p') = (p * p') * (p * p') by grind] at g
    have g2 := of_sq_le (Int.mul_nonneg h1 k1) g
    have e1 : (p + p') * (p + p') = p * p + p' * p' + 2 * (p * p') := by grind
    have e2 : (q + q') * (q + q') * d = q * q * d + q' * q' * d + 2 * (q * q' * d) := by grind
    omega
  · exact NN.add12 hd h1 h2 k1 k2
  · have := NN.add12 hd k1 k2 h1 h2
    rw [Int.add_comm p, Int.add_comm q]; exact this
  · right
    refine ⟨by omega, ?_⟩
    have e : (q * q' * d) * (q * q' * d) = (q * q * d) * (q' * q' * d) := by grind
    have g := mul_le h2 k2 (sq_nn p') (Int.le_trans (sq_nn p) h2)
    rw [← e, show p * p * (p' * p') = (p * p') * (p * p') by grind] at g
    have g2 := of_sq_le (Int.mul_nonneg (Int.mul_nonneg h1 k1) hd) g
    have e1 : (p + p') * (p + p') = p * p + p' * p' + 2 * (p * p') := by grind
    have e2 : (q + q') * (q + q') * d = q * q * d + q' * q' * d + 2 * (q * q' * d) := by grind
    omega
theorem NN.half {d n p q : Int} (hn : 0 < n) (h : NN d (n * p) (n * q)) : NN d p q := by
  have e1 : (n * p) * (n * p) = (n * n) * (p * p) := by grind
  have e2 : (n * q) * (n * q) * d = (n * n) * (q * q * d) := by grind
  have hnn := Int.mul_pos hn hn
  unfold NN at h
  rw [e1, e2] at h
  rcases h with ⟨h1, h2⟩ | ⟨h1, h2⟩
  · exact .inl ⟨Int.le_of_mul_le_mul_left (by simpa using h1) hn, Int.le_of_mul_le_mul_left h2 hnn⟩
  · exact .inr ⟨Int.le_of_mul_le_mul_left (by simpa using h1) hn, Int.le_of_mul_le_mul_left h2 hnn⟩
theorem NN.scale {d n p q : Int} (hn : 0 ≤ n) (h : NN d p q) : NN d (n * p) (n * q) := by
  have e1 : (n * p) * (n * p) = (n * n) * (p * p) := by grind
  have e2 : (n * q) * (n * q) * d = (n * n) * (q * q * d) := by grind
  unfold NN
  rw [e1, e2]
  rcases h with ⟨h1, h2⟩ | ⟨h1, h2⟩
  · exact .inl ⟨Int.mul_nonneg hn h1, Int.mul_le_mul_of_nonneg_left h2 (sq_nn n)⟩
  · exact .inr ⟨Int.mul_nonneg hn h1, Int.mul_le_mul_of_nonneg_left h2 (sq_nn n)⟩
end Go.Proofs.YtleljodcdbhifaaDoor
/- math/bits.Mul64; sign; the sign of p + q root d, as the program reckons it. -/
set_option linter.unusedVariables false
set_option linter.unusedSimpArgs false
namespace Go.Proofs.YtleljodcdbhifaaDoor
open Go.RowKit
theorem maskN (a : Nat) (ha : a < 18446744073709551616) : bits .and .u64 (a : Int) 4294967295 = ((a % 4294967296 : Nat) : Int) := by
  have h := bits_and_u64_nat a 4294967295 ha (by omega)
  have e : a &&& 4294967295 = a % 4294967296 := Nat.and_two_pow_sub_one_eq_mod a 32
  rw [e] at h
  exact h
theorem divN (a : Nat) : (a : Int) / 4294967296 = ((a / 4294967296 : Nat) : Int) := by omega
theorem mulN (a b : Nat) : (a : Int) * (b : Int) = ((a * b : Nat) : Int) := (Int.natCast_mul a b).symm
theorem addN (a b : Nat) : (a : Int) + (b : Int) = ((a + b : Nat) : Int) := (Int.natCast_add a b).symm
theorem wrapN (a : Nat) (ha : a < 18446744073709551616) : IntKind.u64.wrap (a : Int) = (a : Int) := by rw [IntKind.wrap_u64]; omega
theorem wrapM (a : Nat) : IntKind.u64.wrap (a : Int) = ((a % 18446744073709551616 : Nat) : Int) := by rw [IntKind.wrap_u64]; omega
set_option maxHeartbeats 1000000 in
theorem mul64_any (x y : Nat) (hx : x < 18446744073709551616) (hy : y < 18446744073709551616) (w : World) :
    Calls Tryd.prog 61 #[.int .u64 x, .int .u64 y] w fun e w' => e = .returned (.tuple #[.int .u64 ((x * y / 18446744073709551616 : Nat) : Int), .int .u64 ((x * y % 18446744073709551616 : Nat) : Int)]) ∧ w = w' := by
  obtain ⟨bd, bt, bw, hhi⟩ := Lib.mul64_hi x y hx hy
  have ba := Lib.half_mul_le (a := x / 4294967296) (b := y / 4294967296) (by omega) (by omega)
  have bb := Lib.half_mul_le (a := x / 4294967296) (b := y % 4294967296) (by omega) (by omega)
  have bc := Lib.half_mul_le (a := x % 4294967296) (b := y / 4294967296) (by omega) (by omega)
  have ba' : x / 4294967296 * (y / 4294967296) < 18446744073709551616 := by omega
  have bb' : x / 4294967296 * (y % 4294967296) < 18446744073709551616 := by omega
  have bc' : x % 4294967296 * (y / 4294967296) < 18446744073709551616 := by omega
  have bh1 : x / 4294967296 * (y / 4294967296) + (x / 4294967296 * (y % 4294967296) + x % 4294967296 * (y % 4294967296) / 4294967296) / 4294967296 < 18446744073709551616 := by omega
  have bh : x / 4294967296 * (y / 4294967296) + (x / 4294967296 * (y % 4294967296) + x % 4294967296 * (y % 4294967296) / 4294967296) / 4294967296 + ((x / 4294967296 * (y % 4294967296) + x % 4294967296 * (y % 4294967296) / 4294967296) % 4294967296 + x % 4294967296 * (y / 4294967296)) / 4294967296 < 18446744073709551616 := by omega
  go_enter Tryd.func61, Tryd.ntmps61
  go_wp2
  simp only [maskN x hx, maskN y hy, divN, mulN, addN, wrapN _ bd, wrapN _ bb', wrapN _ bt, maskN _ bt, wrapN _ bc', wrapN _ bw, wrapN _ ba', wrapN _ bh1, wrapN _ bh, wrapM (x * y)]
  rw [hhi]
  go_ret2
  exact ⟨rfl, rfl⟩
theorem sign_any (n : Int) (w : World) : Calls Tryd.prog 60 #[.int .i64 n] w fun e w' => e = .returned (.int .i64 (sg n)) ∧ w = w' := by
  by_cases h : n < 0
  · rw [sg_neg h]
    have d : decide (n < 0) = true := decide_eq_true h
    go_enter Tryd.func60, Tryd.ntmps60
    go_wp2
    go_ret
    exact ⟨rfl, rfl⟩
  · have d : decide (n < 0) = false := decide_eq_false h
    by_cases h2 : 0 < n
    · rw [sg_pos h2]
      have d2 : decide (0 < n) = true := decide_eq_true h2
      go_enter Tryd.func60, Tryd.ntmps60
      go_wp2
      go_ret
      exact ⟨rfl, rfl⟩
    · have d2 : decide (0 < n) = false := decide_eq_false h2
      have e : sg n = 0 := by unfold sg; rw [if_neg h, if_neg h2]
      rw [e]
      go_enter Tryd.func60, Tryd.ntmps60
      go_wp2
      go_ret
      exact ⟨rfl, rfl⟩
theorem cmp_eq {x y : Nat} : (x / 18446744073709551616 = y / 18446744073709551616 ∧ x % 18446744073709551616 = y % 18446744073709551616) ↔ x = y := by
  constructor
  · rintro ⟨h1, h2⟩
    omega
  · rintro rfl; exact ⟨rfl, rfl⟩
theorem sg_abs (p : Int) : p * sg p = (p.natAbs : Int) := by
  rcases sg_cases p with ⟨h, e⟩ | ⟨h, e⟩ | ⟨h, e⟩ <;> rw [e] <;> omega
theorem abs_sq (p : Int) : ((p.natAbs * p.natAbs : Nat) : Int) = p * p := by
  rw [Int.natCast_mul]
  rcases Int.natAbs_eq p with e | e
  · rw [← e]
  · have h : (p.natAbs : Int) = -p := by omega
    rw [h, Int.neg_mul_neg]
set_option maxHeartbeats 4000000 in
theorem root_any (p q d : Int) (w : World) (hp : p.natAbs < 9223372036854775808) (hq : q * q < 9223372036854775808) (hd0 : 0 ≤ d) (hd : d < 9223372036854775808) :
    Calls Tryd.prog 59 #[.int .i64 p, .int .i64 q, .int .i64 d] w fun e w' => e = .returned (.int .i64 (rt p q d)) ∧ w = w' := by
  obtain ⟨A, hA⟩ : ∃ A, A = sg p := ⟨_, rfl⟩
  obtain ⟨B, hB⟩ : ∃ B, B = sg q := ⟨_, rfl⟩
  by_cases hz : d = 0
  · have e : rt p q d = A := by unfold rt; rw [if_pos hz, hA]; simp
    rw [e]
    subst hz
    have h1 : (A == 0) = true ∨ (A == 0) = false := by cases (A == 0) <;> simp
    have HA := Lib.hid hA
    have HB := Lib.hid hB
    clear hp hq hd0 hd e hA hB
    rcases h1 with h1 | h1
    all_goals
      go_enter Tryd.func59, Tryd.ntmps59
      go_wp2_with fail
      refine (sign_any p w).mono ?_
      rintro e w' ⟨rfl, rfl⟩
      rw [← HA.out]
      go_wp2_with fail
      refine (sign_any q w).mono ?_
      rintro e w' ⟨rfl, rfl⟩
      rw [← HB.out]
      go_wp2
      go_ret
      exact ⟨by first | rfl | (simp at h1; rw [h1]; rfl) | (simp at h1; rw [h1]), rfl⟩
  · have dz : (d == 0) = false := by simpa using hz
    have hrt : rt p q d = if A = B ∨ B = 0 then A else if A = 0 then B else if p * p = q * q * d then 0 else if q * q * d < p * p then A else B := by
      unfold rt; rw [if_neg hz, hA, hB]
    have hpa : p * A = (p.natAbs : Int) := by rw [hA]; exact sg_abs p
    have hsq := abs_sq p
    have hqq : 0 ≤ q * q := sq_nn q
    obtain ⟨Q, hQ⟩ : ∃ Q : Nat, q * q = (Q : Int) := ⟨(q * q).toNat, by omega⟩
    obtain ⟨D, rfl⟩ : ∃ D : Nat, d = (D : Int) := ⟨d.toNat, by omega⟩
    generalize p.natAbs = Pn at *
    have hPP : p * p = ((Pn * Pn : Nat) : Int) := hsq.symm
    have hQD : q * q * (D : Int) = ((Q * D : Nat) : Int) := by rw [hQ]; omega
    rw [hPP, hQD] at hrt
    have wp : IntKind.i64.wrap (p * A) = (Pn : Int) := by rw [hpa]; exact IntWalk.i64_in _ (by omega)
    have wu : IntKind.u64.wrap (Pn : Int) = (Pn : Int) := wrapN _ (by omega)
    have wq : IntKind.i64.wrap (q * q) = (Q : Int) := by rw [hQ]; exact IntWalk.i64_in _ (by omega)
    have wuq : IntKind.u64.wrap (Q : Int) = (Q : Int) := wrapN _ (by omega)
    have wud : IntKind.u64.wrap (D : Int) = (D : Int) := wrapN _ (by omega)
    have bP : Pn < 18446744073709551616 := by omega
    have bQ : Q < 18446744073709551616 := by omega
    have bD : D < 18446744073709551616 := by omega
    have R := Lib.hid hrt
    clear hrt hpa hsq hqq hQ hPP hQD hp hq hd0 hd hz
    have h1 : (A == B) = true ∨ (A == B) = false := by cases (A == B) <;> simp
    have h2 : (B == 0) = true ∨ (B == 0) = false := by cases (B == 0) <;> simp
    have h3 : (A == 0) = true ∨ (A == 0) = false := by cases (A == 0) <;> simp
    have HA := Lib.hid hA
    have HB := Lib.hid hB
    clear hA hB
    rcases h1 with h1 | h1
    · have e : rt p q (D : Int) = A := by rw [R.out, if_pos (.inl (by simpa using h1))]
      rw [e]
      clear e R wp wq wu wuq wud h2 h3
      go_enter Tryd.func59, Tryd.ntmps59
      go_wp2_with fail
      refine (sign_any p w).mono ?_
      rintro e w' ⟨rfl, rfl⟩
      rw [← HA.out]
      go_wp2_with fail
      refine (sign_any q w).mono ?_
      rintro e w' ⟨rfl, rfl⟩
      rw [← HB.out]
      go_wp2
      go_ret
      exact ⟨rfl, rfl⟩
    rcases h2 with h2 | h2
    · have e : rt p q (D : Int) = A := by rw [R.out, if_pos (.inr (by simpa using h2))]
      rw [e]
      clear e R wp wq wu wuq wud h3
      go_enter Tryd.func59, Tryd.ntmps59
      go_wp2_with fail
      refine (sign_any p w).mono ?_
      rintro e w' ⟨rfl, rfl⟩
      rw [← HA.out]
      go_wp2_with fail
      refine (sign_any q w).mono ?_
      rintro e w' ⟨rfl, rfl⟩
      rw [← HB.out]
      go_wp2
      go_ret
      exact ⟨rfl, rfl⟩
    have n1 : ¬ (A = B ∨ B = 0) := by simp at h1 h2; omega
    rcases h3 with h3 | h3
    · have e : rt p q (D : Int) = B := by rw [R.out, if_neg n1, if_pos (by simpa using h3)]
      rw [e]
      clear e R wp wq wu wuq wud n1
      go_enter Tryd.func59, Tryd.ntmps59
      go_wp2_with fail
      refine (sign_any p w).mono ?_
      rintro e w' ⟨rfl, rfl⟩
      rw [← HA.out]
      go_wp2_with fail
      refine (sign_any q w).mono ?_
      rintro e w' ⟨rfl, rfl⟩
      rw [← HB.out]
      go_wp2
      go_ret
      exact ⟨rfl, rfl⟩
    have r3 : rt p q (D : Int) = if ((Pn * Pn : Nat) : Int) = ((Q * D : Nat) : Int) then 0 else if ((Q * D : Nat) : Int) < ((Pn * Pn : Nat) : Int) then A else B := by
      rw [R.out, if_neg n1, if_neg (by simpa using h3)]
    clear R n1
    obtain ⟨X, hX⟩ : ∃ X, Pn * Pn = X := ⟨_, rfl⟩
    obtain ⟨Y, hY⟩ : ∃ Y, Q * D = Y := ⟨_, rfl⟩
    rw [hX, hY] at r3
    obtain ⟨Xh, hXh⟩ : ∃ Xh, X / 18446744073709551616 = Xh := ⟨_, rfl⟩
    obtain ⟨Xl, hXl⟩ : ∃ Xl, X % 18446744073709551616 = Xl := ⟨_, rfl⟩
    obtain ⟨Yh, hYh⟩ : ∃ Yh, Y / 18446744073709551616 = Yh := ⟨_, rfl⟩
    obtain ⟨Yl, hYl⟩ : ∃ Yl, Y % 18446744073709551616 = Yl := ⟨_, rfl⟩
    have XX := Lib.hid (And.intro hX (And.intro hXh hXl))
    have YY := Lib.hid (And.intro hY (And.intro hYh hYl))
    have tri : (Xh = Yh ∧ Xl = Yl) ∨ (Yh < Xh) ∨ (Xh = Yh ∧ Yl < Xl) ∨ (Xh < Yh) ∨ (Xh = Yh ∧ Xl < Yl) := by omega
    rcases tri with ⟨t1, t2⟩ | t1 | ⟨t1, t2⟩ | t1 | ⟨t1, t2⟩
    · have e : rt p q (D : Int) = 0 := by rw [r3, if_pos (by omega)]
      rw [e]
      clear e r3 hX hXh hXl hY hYh hYl
      have c1 : ((Xh : Int) == (Yh : Int)) = true := by simp; omega
      have c2 : ((Xl : Int) == (Yl : Int)) = true := by simp; omega
      clear t1 t2
      go_enter Tryd.func59, Tryd.ntmps59
      go_wp2_with fail
      refine (sign_any p w).mono ?_
      rintro e w' ⟨rfl, rfl⟩
      rw [← HA.out]
      go_wp2_with fail
      refine (sign_any q w).mono ?_
      rintro e w' ⟨rfl, rfl⟩
      rw [← HB.out]
      go_wp2_with fail
      refine (mul64_any Pn Pn bP bP w).mono ?_
      rintro e w' ⟨rfl, rfl⟩
      rw [XX.out.1, XX.out.2.1, XX.out.2.2]
      go_wp2_with fail
      refine (mul64_any Q D bQ bD w).mono ?_
      rintro e w' ⟨rfl, rfl⟩
      rw [YY.out.1, YY.out.2.1, YY.out.2.2]
      go_wp2
      go_ret
      exact ⟨rfl, rfl⟩
    · have e : rt p q (D : Int) = A := by rw [r3, if_neg (by omega), if_pos (by omega)]
      rw [e]
      clear e r3 hX hXh hXl hY hYh hYl
      have c1 : ((Xh : Int) == (Yh : Int)) = false := by simp; omega
      have c3 : decide (Yh < Xh) = true := by simp; omega
      clear t1
      go_enter Tryd.func59, Tryd.ntmps59
      go_wp2_with fail
      refine (sign_any p w).mono ?_
      rintro e w' ⟨rfl, rfl⟩
      rw [← HA.out]
      go_wp2_with fail
      refine (sign_any q w).mono ?_
      rintro e w' ⟨rfl, rfl⟩
      rw [← HB.out]
      go_wp2_with fail
      refine (mul64_any Pn Pn bP bP w).mono ?_
      rintro e w' ⟨rfl, rfl⟩
      rw [XX.out.1, XX.out.2.1, XX.out.2.2]
      go_wp2_with fail
      refine (mul64_any Q D bQ bD w).mono ?_
      rintro e w' ⟨rfl, rfl⟩
      rw [YY.out.1, YY.out.2.1, YY.out.2.2]
      go_wp2
      go_ret
      exact ⟨rfl, rfl⟩
    · have e : rt p q (D : Int) = A := by rw [r3, if_neg (by omega), if_pos (by omega)]
      rw [e]
      clear e r3 hX hXh hXl hY hYh hYl
      have c1 : ((Xh : Int) == (Yh : Int)) = true := by simp; omega
      have c3 : decide (Yh < Xh) = false := by simp; omega
      have c2 : ((Xl : Int) == (Yl : Int)) = false := by simp; omega
      have c4 : decide (Yl < Xl) = true := by simp; omega
      clear t1 t2
      go_enter Tryd.func59, Tryd.ntmps59
      go_wp2_with fail
      refine (sign_any p w).mono ?_
      rintro e w' ⟨rfl, rfl⟩
      rw [← HA.out]
      go_wp2_with fail
      refine (sign_any q w).mono ?_
      rintro e w' ⟨rfl, rfl⟩
      rw [← HB.out]
      go_wp2_with fail
      refine (mul64_any Pn Pn bP bP w).mono ?_
      rintro e w' ⟨rfl, rfl⟩
      rw [XX.out.1, XX.out.2.1, XX.out.2.2]
      go_wp2_with fail
      refine (mul64_any Q D bQ bD w).mono ?_
      rintro e w' ⟨rfl, rfl⟩
      rw [YY.out.1, YY.out.2.1, YY.out.2.2]
      go_wp2
      go_ret
      exact ⟨rfl, rfl⟩
    · have e : rt p q (D : Int) = B := by rw [r3, if_neg (by omega), if_neg (by omega)]
      rw [e]
      clear e r3 hX hXh hXl hY hYh hYl
      have c1 : ((Xh : Int) == (Yh : Int)) = false := by simp; omega
      have c3 : decide (Yh < Xh) = false := by simp; omega
      clear t1
      go_enter Tryd.func59, Tryd.ntmps59
      go_wp2_with fail
      refine (sign_any p w).mono ?_
      rintro e w' ⟨rfl, rfl⟩
      rw [← HA.out]
      go_wp2_with fail
      refine (sign_any q w).mono ?_
      rintro e w' ⟨rfl, rfl⟩
      rw [← HB.out]
      go_wp2_with fail
      refine (mul64_any Pn Pn bP bP w).mono ?_
      rintro e w' ⟨rfl, rfl⟩
      rw [XX.out.1, XX.out.2.1, XX.out.2.2]
      go_wp2_with fail
      refine (mul64_any Q D bQ bD w).mono ?_
      rintro e w' ⟨rfl, rfl⟩
      rw [YY.out.1, YY.out.2.1, YY.out.2.2]
      go_wp2
      go_ret
      exact ⟨rfl, rfl⟩
    · have e : rt p q (D : Int) = B := by rw [r3, if_neg (by omega), if_neg (by omega)]
      rw [e]
      clear e r3 hX hXh hXl hY hYh hYl
      have c1 : ((Xh : Int) == (Yh : Int)) = true := by simp; omega
      have c3 : decide (Yh < Xh) = false := by simp; omega
      have c2 : ((Xl : Int) == (Yl : Int)) = false := by simp; omega
      have c4 : decide (Yl < Xl) = false := by simp; omega
      clear t1 t2
      go_enter Tryd.func59, Tryd.ntmps59
      go_wp2_with fail
      refine (sign_any p w).mono ?_
      rintro e w' ⟨rfl, rfl⟩
      rw [← HA.out]
      go_wp2_with fail
      refine (sign_any q w).mono ?_
      rintro e w' ⟨rfl, rfl⟩
      rw [← HB.out]
      go_wp2_with fail
      refine (mul64_any Pn Pn bP bP w).mono ?_
      rintro e w' ⟨rfl, rfl⟩
      rw [XX.out.1, XX.out.2.1, XX.out.2.2]
      go_wp2_with fail
      refine (mul64_any Q D bQ bD w).mono ?_
      rintro e w' ⟨rfl, rfl⟩
      rw [YY.out.1, YY.out.2.1, YY.out.2.2]
      go_wp2
      go_ret
      exact ⟨rfl, rfl⟩
end Go.Proofs.YtleljodcdbhifaaDoor
/- What a piece of a contour counts for a point, in plain Lean: turned around, far away. -/
set_option linter.unusedVariables false
set_option linter.unusedSimpArgs false
namespace Go.Proofs.YtleljodcdbhifaaDoor
/-- what a straight line counts -/
def cntL (x0 y0 x2 y2 x y : Int) : Int :=
  if y < min y0 y2 ∨ max y0 y2 ≤ y then 0
  else if 0 < sg (y2 - y0) * ((x2 - x0) * (y - y0) - (x - x0) * (y2 - y0)) then 0 else sg (y2 - y0)
/-- what a curve counts, whose y isn't a straight function -/
def cntQ (a b c e f g : Int) : Int :=
  if b * b - 4 * a * c < 0 ∨ (b * b - 4 * a * c = 0 ∧ a < 0) then 0
  else (if 0 ≤ sg a * rt (-b) 1 (b * b - 4 * a * c) ∧ sg a * rt (-b - 2 * a) 1 (b * b - 4 * a * c) < 0 ∧ rt (2 * a * (a * g - e * c) - b * (a * f - e * b)) (a * f - e * b) (b * b - 4 * a * c) ≤ 0 then 1 else 0)
    - (if 0 < sg a * rt (-b) (-1) (b * b - 4 * a * c) ∧ sg a * rt (-b - 2 * a) (-1) (b * b - 4 * a * c) ≤ 0 ∧ rt (2 * a * (a * g - e * c) - b * (a * f - e * b)) (-(a * f - e * b)) (b * b - 4 * a * c) ≤ 0 then 1 else 0)
def cntC (x0 y0 x1 y1 x2 y2 x y : Int) : Int :=
  if y0 - 2 * y1 + y2 = 0 then
    (if 2 * (y1 - y0) = 0 ∨ 0 < (y0 - y) * (y0 - y + 2 * (y1 - y0)) ∨ max y0 y2 = y then 0
     else if 0 < (x0 - 2 * x1 + x2) * (y0 - y) * (y0 - y) - (2 * (x1 - x0)) * (y0 - y) * (2 * (y1 - y0)) + (x0 - x) * (2 * (y1 - y0)) * (2 * (y1 - y0)) then 0
     else sg (2 * (y1 - y0)))
  else cntQ (y0 - 2 * y1 + y2) (2 * (y1 - y0)) (y0 - y) (x0 - 2 * x1 + x2) (2 * (x1 - x0)) (x0 - x)
/-! turned around -/
theorem sg_mul_rt {s p q d : Int} (hs : s = 1 ∨ s = -1) : s * rt p q d = rt (s * p) (s * q) d := by
  rcases hs with rfl | rfl
  · simp
  · rw [Int.neg_mul, Int.one_mul, ← rt_opp, Int.neg_mul, Int.neg_mul, Int.one_mul, Int.one_mul]
/-! the hull -/
theorem hull_nn {a b c d e f m0 m1 m2 s w : Int} (hd : d = b * b - 4 * a * c) (hd0 : 0 ≤ d) (hs : s = 1 ∨ s = -1) (hw : w = 1 ∨ w = -1)
    (hU : NN d (s * (-b)) (s * w)) (hV : NN d (s * (b + 2 * a)) (-(s * w))) (h0 : 0 ≤ m0) (h1 : 0 ≤ m1) (h2 : 0 ≤ m2) (he : e = m0 - 2 * m1 + m2) (hf : f = 2 * (m1 - m0)) :
    NN d (2 * a * (a * m0 - e * c) - b * (a * f - e * b)) (w * (a * f - e * b)) := by
  have k0 := NN.scale h0 (NN.mul hd0 hV hV)
  have k1 := NN.scale (show 0 ≤ 2 * m1 by omega) (NN.mul hd0 hU hV)
  have k2 := NN.scale h2 (NN.mul hd0 hU hU)
  have k := NN.add hd0 (NN.add hd0 k0 k1) k2
  refine NN.half (n := 2) (by omega) ?_
  subst he hf
  have e1 : 2 * (2 * a * (a * m0 - (m0 - 2 * m1 + m2) * c) - b * (a * (2 * (m1 - m0)) - (m0 - 2 * m1 + m2) * b)) = m0 * (s * (b + 2 * a) * (s * (b + 2 * a)) + -(s * w) * -(s * w) * d) + 2 * m1 * (s * -b * (s * (b + 2 * a)) + s * w * -(s * w) * d) + m2 * (s * -b * (s * -b) + s * w * (s * w) * d) := by
    rcases hs with rfl | rfl <;> rcases hw with rfl | rfl <;> grind
  have e2 : 2 * (w * (a * (2 * (m1 - m0)) - (m0 - 2 * m1 + m2) * b)) = m0 * (s * (b + 2 * a) * -(s * w) + -(s * w) * (s * (b + 2 * a))) + 2 * m1 * (s * -b * -(s * w) + s * w * (s * (b + 2 * a))) + m2 * (s * -b * (s * w) + s * w * (s * -b)) := by
    rcases hs with rfl | rfl <;> rcases hw with rfl | rfl <;> grind
  rw [e1, e2]
  exact k
theorem sg_one {a : Int} (h : a ≠ 0) : sg a = 1 ∨ sg a = -1 := by
  rcases sg_cases a with h1 | h1 | h1
  · exact .inr h1.2
  · exact absurd h1.1 h
  · exact .inl h1.2
/-- the two conditions of a way that lies along the curve -/
theorem along_nn {a b d w : Int} (ha : a ≠ 0) (hd : 0 ≤ d) (h1 : 0 ≤ sg a * rt (-b) w d) (h2 : sg a * rt (-b - 2 * a) w d ≤ 0) : NN d (sg a * (-b)) (sg a * w) ∧ NN d (sg a * (b + 2 * a)) (-(sg a * w)) := by
  rw [sg_mul_rt (sg_one ha)] at h1 h2
  rw [rt_nn hd] at h1
  rw [rt_le hd] at h2
  refine ⟨h1, ?_⟩
  rw [show sg a * (b + 2 * a) = -(sg a * (-b - 2 * a)) by grind]
  exact h2
/-- a curve that lies wholly beyond the point on the right counts nothing -/
theorem nn_far {d p q n : Int} (hd : 0 ≤ d) (hn : 0 < n) (h : NN d (p - n) q) : ¬ rt p q d ≤ 0 := by
  intro h1
  rw [rt_le hd] at h1
  have h2 := (NN.add hd h h1)
  rw [show p - n + -p = -n by omega, show q + -q = 0 by omega] at h2
  have := h2.of_int
  omega
theorem cntQ_left {a b c e f g m1 m2 : Int} (ha : a ≠ 0) (h0 : 0 < g) (h1 : 0 < m1) (h2 : 0 < m2) (he : e = g - 2 * m1 + m2) (hf : f = 2 * (m1 - g)) : cntQ a b c e f g = 0 := by
  unfold cntQ
  generalize hd : b * b - 4 * a * c = d
  by_cases hz : d < 0 ∨ (d = 0 ∧ a < 0)
  · rw [if_pos hz]
  · rw [if_neg hz]
    have hd0 : 0 ≤ d := by omega
    have haa := sq_pos ha
    have key : ∀ w, (w = 1 ∨ w = -1) → 0 ≤ sg a * rt (-b) w d → sg a * rt (-b - 2 * a) w d ≤ 0 → ¬ rt (2 * a * (a * g - e * c) - b * (a * f - e * b)) (w * (a * f - e * b)) d ≤ 0 := by
      intro w hw q1 q2
      obtain ⟨hU, hV⟩ := along_nn ha hd0 q1 q2
      have h := hull_nn (m0 := g - 1) (m1 := m1 - 1) (m2 := m2 - 1) hd.symm hd0 (sg_one ha) hw hU hV (by omega) (by omega) (by omega) (show e = _ by omega) (show f = _ by omega)
      refine nn_far hd0 (show 0 < 2 * (a * a) by omega) ?_
      rw [show 2 * a * (a * g - e * c) - b * (a * f - e * b) - 2 * (a * a) = 2 * a * (a * (g - 1) - e * c) - b * (a * f - e * b) by grind]
      exact h
    have k1 := key 1 (.inl rfl)
    have k2 := key (-1) (.inr rfl)
    rw [Int.one_mul] at k1
    rw [Int.neg_mul, Int.one_mul] at k2
    rw [if_neg (fun h => k1 h.1 (by omega) h.2.2), if_neg (fun h => k2 (by omega) h.2.1 h.2.2)]
    rfl
/-- no way lies along the curve, where all its points are on one side of the line -/
theorem no_along {a b c d w m1 m2 : Int} (ha : a ≠ 0) (hd : d = b * b - 4 * a * c) (hd0 : 0 ≤ d) (hw : w = 1 ∨ w = -1) (hm1 : b = 2 * (m1 - c)) (hm2 : a = c - 2 * m1 + m2) (hside : (0 < c ∧ 0 < m1 ∧ 0 < m2) ∨ (c < 0 ∧ m1 < 0 ∧ m2 < 0))
    (q1 : 0 ≤ sg a * rt (-b) w d) (q2 : sg a * rt (-b - 2 * a) w d ≤ 0) : False := by
  obtain ⟨hU, hV⟩ := along_nn ha hd0 q1 q2
  have haa := sq_pos ha
  rcases hside with ⟨h0, h1, h2⟩ | ⟨h0, h1, h2⟩
  · have h := hull_nn (e := a) (f := b) (m0 := c - 1) (m1 := m1 - 1) (m2 := m2 - 1) hd hd0 (sg_one ha) hw hU hV (by omega) (by omega) (by omega) (by omega) (by omega)
    rw [show a * b - a * b = 0 by omega, Int.mul_zero, Int.mul_zero, show 2 * a * (a * (c - 1) - a * c) - 0 = -(2 * (a * a)) by grind] at h
    have := h.of_int
    omega
  · have h := hull_nn (e := -a) (f := -b) (m0 := -c - 1) (m1 := -m1 - 1) (m2 := -m2 - 1) hd hd0 (sg_one ha) hw hU hV (by omega) (by omega) (by omega) (by omega) (by omega)
    rw [show a * -b - -a * b = 0 by grind, Int.mul_zero, Int.mul_zero, show 2 * a * (a * (-c - 1) - -a * c) - 0 = -(2 * (a * a)) by grind] at h
    have := h.of_int
    omega
theorem cntQ_off {a b c e f g m1 m2 : Int} (ha : a ≠ 0) (hm1 : b = 2 * (m1 - c)) (hm2 : a = c - 2 * m1 + m2) (hside : (0 < c ∧ 0 < m1 ∧ 0 < m2) ∨ (c < 0 ∧ m1 < 0 ∧ m2 < 0)) : cntQ a b c e f g = 0 := by
  unfold cntQ
  generalize hd : b * b - 4 * a * c = d
  by_cases hz : d < 0 ∨ (d = 0 ∧ a < 0)
  · rw [if_pos hz]
  · rw [if_neg hz]
    have hd0 : 0 ≤ d := by omega
    rw [if_neg (fun h => no_along ha hd.symm hd0 (.inl rfl) hm1 hm2 hside h.1 (by omega)), if_neg (fun h => no_along ha hd.symm hd0 (.inr rfl) hm1 hm2 hside (by omega) h.2.1)]
    rfl
/-! far to the right each way counts -/
theorem rt_pm {p d : Int} (hd : 0 ≤ d) : rt p (-1) d ≤ rt p 1 d ∧ (0 < d → rt p (-1) d < rt p 1 d ∨ (rt p (-1) d = 1 ∧ rt p 1 d = 1) ∨ (rt p (-1) d = -1 ∧ rt p 1 d = -1)) ∧ rt p 1 d * rt p (-1) d = sg (p * p - d) := by
  have hp := sq_nn p
  unfold rt
  rw [show (-1 : Int) * -1 * d = d by omega, show (1 : Int) * 1 * d = d by omega, show sg (-1) = -1 from rfl, show sg 1 = 1 from rfl]
  rcases sg_cases p with ⟨h1, e1⟩ | ⟨h1, e1⟩ | ⟨h1, e1⟩
  · have hpp := sq_pos (show p ≠ 0 by omega)
    rw [e1]
    by_cases h0 : d = 0
    · subst h0
      simp only [if_true]
      rw [sg_pos (show 0 < p * p - 0 by omega)]
      simp
    · simp only [h0, if_false]
      rcases Int.lt_or_le d (p * p) with h2 | h2
      · rw [sg_pos (show 0 < p * p - d by omega)]
        simp [show ¬ p * p = d by omega, h2]
      · rcases Int.lt_or_le (p * p) d with h3 | h3
        · rw [sg_neg (show p * p - d < 0 by omega)]
          simp [show ¬ p * p = d by omega, show ¬ d < p * p by omega]
        · have : p * p = d := by omega
          rw [show p * p - d = 0 by omega, sg_zero]
          simp [this]
  · subst h1
    rw [e1]
    by_cases h0 : d = 0
    · subst h0
      simp [sg_zero]
    · simp only [h0, if_false]
      rw [show (0 : Int) * 0 - d = -d by omega, sg_neg (show -d < 0 by omega)]
      simp
  · have hpp := sq_pos (show p ≠ 0 by omega)
    rw [e1]
    by_cases h0 : d = 0
    · subst h0
      simp only [if_true]
      rw [sg_pos (show 0 < p * p - 0 by omega)]
      simp
    · simp only [h0, if_false]
      rcases Int.lt_or_le d (p * p) with h2 | h2
      · rw [sg_pos (show 0 < p * p - d by omega)]
        simp [show ¬ p * p = d by omega, h2]
      · rcases Int.lt_or_le (p * p) d with h3 | h3
        · rw [sg_neg (show p * p - d < 0 by omega)]
          simp [show ¬ p * p = d by omega, show ¬ d < p * p by omega]
        · have : p * p = d := by omega
          rw [show p * p - d = 0 by omega, sg_zero]
          simp [this]
theorem rt_mono {p p' q d : Int} (hd : 0 ≤ d) (hp : p < p') (h : 0 ≤ rt p q d) : 0 < rt p' q d := by
  rw [rt_nn hd] at h
  have := nn_far (p := p') (q := q) (n := p' - p) hd (by omega) (by rw [show p' - (p' - p) = p by omega]; exact h)
  omega
theorem ite_iff {P Q : Prop} [Decidable P] [Decidable Q] (h : P ↔ Q) {a b : Int} : (if P then a else b) = if Q then a else b := by
  by_cases hP : P
  · rw [if_pos hP, if_pos (h.1 hP)]
  · rw [if_neg hP, if_neg (fun hQ => hP (h.2 hQ))]
def Hs (v y : Int) : Int := if v ≤ y then 1 else 0
theorem sg_four {a c : Int} : sg (4 * a * c) = sg a * sg c := by
  rcases sg_cases a with ⟨h1, e1⟩ | ⟨h1, e1⟩ | ⟨h1, e1⟩ <;> rcases sg_cases c with ⟨h2, e2⟩ | ⟨h2, e2⟩ | ⟨h2, e2⟩ <;> rw [e1, e2]
  · exact sg_pos (by have := Int.mul_pos_of_neg_of_neg h1 h2; have e : 4 * a * c = 4 * (a * c) := by grind
                     omega)
  · subst h2; simp [sg_zero]
  · exact sg_neg (by have := Int.mul_neg_of_neg_of_pos h1 h2; have e : 4 * a * c = 4 * (a * c) := by grind
                     omega)
  · subst h1; simp [sg_zero]
  · subst h1; simp [sg_zero]
  · subst h1; simp [sg_zero]
  · exact sg_neg (by have := Int.mul_neg_of_pos_of_neg h1 h2; have e : 4 * a * c = 4 * (a * c) := by grind
                     omega)
  · subst h2; simp [sg_zero]
  · exact sg_pos (by have := Int.mul_pos h1 h2; have e : 4 * a * c = 4 * (a * c) := by grind
                     omega)
theorem sg_le {n : Int} : sg n ≤ 0 ↔ n ≤ 0 := by unfold sg; omega
/-- what counts if the place is far to the right: only where the ends are -/
theorem cntQ_right {a b c e f g m1 m2 : Int} (ha : a ≠ 0) (h0 : g ≤ 0) (h1 : m1 ≤ 0) (h2 : m2 ≤ 0) (he : e = g - 2 * m1 + m2) (hf : f = 2 * (m1 - g)) : cntQ a b c e f g = (if c ≤ 0 then 1 else 0) - (if a + b + c ≤ 0 then 1 else 0) := by
  unfold cntQ
  have e4 : (-b) * (-b) - (b * b - 4 * a * c) = 4 * a * c := by grind
  have e5 : (-b - 2 * a) * (-b - 2 * a) - (b * b - 4 * a * c) = 4 * a * (a + b + c) := by grind
  generalize hd : b * b - 4 * a * c = d at *
  have hdc : d = b * b - 4 * a * c := hd.symm
  by_cases hz : d < 0 ∨ (d = 0 ∧ a < 0)
  · rw [if_pos hz]
    -- one sign throughout
    have e6 : 4 * (a * c) = b * b - d := by rw [hdc]; grind
    have e7 : 4 * (a * (a + b + c)) = (b + 2 * a) * (b + 2 * a) - d := by rw [hdc]; grind
    have g1 := sq_nn b
    have g2 := sq_nn (b + 2 * a)
    rcases Int.lt_or_le a 0 with hneg | hpos
    · have c1 : c ≤ 0 := by
        rcases Int.lt_or_le 0 c with hc | hc
        · have := Int.mul_neg_of_neg_of_pos hneg hc; omega
        · exact hc
      have c2 : a + b + c ≤ 0 := by
        rcases Int.lt_or_le 0 (a + b + c) with hc | hc
        · have := Int.mul_neg_of_neg_of_pos hneg hc; omega
        · exact hc
      rw [if_pos c1, if_pos c2]; rfl
    · have hp : 0 < a := by omega
      have c1 : ¬ c ≤ 0 := by
        intro hc
        have := Int.mul_nonneg (show 0 ≤ a by omega) (show 0 ≤ -c by omega)
        rw [Int.mul_neg] at this; omega
      have c2 : ¬ a + b + c ≤ 0 := by
        intro hc
        have := Int.mul_nonneg (show 0 ≤ a by omega) (show 0 ≤ -(a + b + c) by omega)
        rw [Int.mul_neg] at this; omega
      rw [if_neg c1, if_neg c2]; rfl
  · rw [if_neg hz]
    have hd0 : 0 ≤ d := by omega
    have key : ∀ w, (w = 1 ∨ w = -1) → 0 ≤ sg a * rt (-b) w d → sg a * rt (-b - 2 * a) w d ≤ 0 → rt (2 * a * (a * g - e * c) - b * (a * f - e * b)) (w * (a * f - e * b)) d ≤ 0 := by
      intro w hw q1 q2
      obtain ⟨hU, hV⟩ := along_nn ha hd0 q1 q2
      have h := hull_nn (e := -e) (f := -f) (m0 := -g) (m1 := -m1) (m2 := -m2) hdc hd0 (sg_one ha) hw hU hV (by omega) (by omega) (by omega) (by omega) (by omega)
      rw [rt_le hd0]
      rw [show -(2 * a * (a * g - e * c) - b * (a * f - e * b)) = 2 * a * (a * -g - -e * c) - b * (a * -f - -e * b) by grind, show -(w * (a * f - e * b)) = w * (a * -f - -e * b) by grind]
      exact h
    have k1 := key 1 (.inl rfl)
    have k2 := key (-1) (.inr rfl)
    rw [Int.one_mul] at k1
    rw [Int.neg_mul, Int.one_mul] at k2
    have E1 : (0 ≤ sg a * rt (-b) 1 d ∧ sg a * rt (-b - 2 * a) 1 d < 0 ∧ rt (2 * a * (a * g - e * c) - b * (a * f - e * b)) (a * f - e * b) d ≤ 0) ↔ (0 ≤ sg a * rt (-b) 1 d ∧ sg a * rt (-b - 2 * a) 1 d < 0) :=
      ⟨fun h => ⟨h.1, h.2.1⟩, fun h => ⟨h.1, h.2, k1 h.1 (by omega)⟩⟩
    have E2 : (0 < sg a * rt (-b) (-1) d ∧ sg a * rt (-b - 2 * a) (-1) d ≤ 0 ∧ rt (2 * a * (a * g - e * c) - b * (a * f - e * b)) (-(a * f - e * b)) d ≤ 0) ↔ (0 < sg a * rt (-b) (-1) d ∧ sg a * rt (-b - 2 * a) (-1) d ≤ 0) :=
      ⟨fun h => ⟨h.1, h.2.1⟩, fun h => ⟨h.1, h.2, k2 (by omega) h.2⟩⟩
    rw [ite_iff E1, ite_iff E2]
    obtain ⟨p1, p2, p3⟩ := rt_pm (p := -b) hd0
    obtain ⟨q1, q2, q3⟩ := rt_pm (p := -b - 2 * a) hd0
    rw [e4, sg_four] at p3
    rw [e5, sg_four] at q3
    rw [ite_iff (sg_le (n := c)).symm, ite_iff (sg_le (n := a + b + c)).symm]
    have v1 := rt_cases (-b) 1 d
    have v2 := rt_cases (-b) (-1) d
    have v3 := rt_cases (-b - 2 * a) 1 d
    have v4 := rt_cases (-b - 2 * a) (-1) d
    have mo : ∀ q, (0 < a → 0 ≤ rt (-b - 2 * a) q d → 0 < rt (-b) q d) ∧ (a < 0 → 0 ≤ rt (-b) q d → 0 < rt (-b - 2 * a) q d) :=
      fun q => ⟨fun h => rt_mono hd0 (by omega), fun h => rt_mono hd0 (by omega)⟩
    have m1' := mo 1
    have m2' := mo (-1)
    clear mo key k1 k2 E1 E2
    generalize rt (-b) 1 d = r1 at *
    generalize rt (-b) (-1) d = r2 at *
    generalize rt (-b - 2 * a) 1 d = r3 at *
    generalize rt (-b - 2 * a) (-1) d = r4 at *
    generalize sg c = sc at *
    generalize sg (a + b + c) = sd at *
    rcases sg_cases a with ⟨hneg, ea⟩ | ⟨hz2, ea⟩ | ⟨hpos, ea⟩
    · rw [ea] at p3 q3 ⊢
      have hdp : 0 < d := by omega
      have p2' := p2 hdp
      have q2' := q2 hdp
      have t1 := m1'.2 hneg
      have t2 := m2'.2 hneg
      clear m1' m2' p2 q2
      rcases v1 with rfl | rfl | rfl <;> rcases v2 with rfl | rfl | rfl <;> (try (exfalso; omega)) <;> rcases v3 with rfl | rfl | rfl <;> (try (exfalso; omega)) <;> rcases v4 with rfl | rfl | rfl <;> (try (exfalso; omega)) <;> ((repeat' split) <;> omega)
    · exact absurd hz2 ha
    · rw [ea] at p3 q3 ⊢
      have t1 := m1'.1 hpos
      have t2 := m2'.1 hpos
      clear m1' m2' p2 q2
      rcases v1 with rfl | rfl | rfl <;> rcases v2 with rfl | rfl | rfl <;> (try (exfalso; omega)) <;> rcases v3 with rfl | rfl | rfl <;> (try (exfalso; omega)) <;> rcases v4 with rfl | rfl | rfl <;> (try (exfalso; omega)) <;> ((repeat' split) <;> omega)
/-! a whole curve -/
theorem cntC_left {x0 y0 x1 y1 x2 y2 x y : Int} (h0 : x < x0) (h1 : x < x1) (h2 : x < x2) : cntC x0 y0 x1 y1 x2 y2 x y = 0 := by
  unfold cntC
  by_cases ha : y0 - 2 * y1 + y2 = 0
  · rw [if_pos ha]
    generalize 2 * (y1 - y0) = b
    generalize y0 - y = c
    split
    · rfl
    · rename_i h
      rw [not_or, not_or] at h
      obtain ⟨hb, hc, _⟩ := h
      rw [if_pos]
      have hcc : c * (c + b) ≤ 0 := by omega
      -- b^2 (X - x) = (c+b)^2 A - 2 c (c+b) B + c^2 C
      have e : (x0 - 2 * x1 + x2) * c * c - 2 * (x1 - x0) * c * b + (x0 - x) * b * b = (x0 - x) * ((c + b) * (c + b)) + 2 * ((x1 - x) * (-(c * (c + b)))) + (x2 - x) * (c * c) := by grind
      rw [e]
      have g0 := Int.mul_nonneg (show 0 ≤ x0 - x by omega) (sq_nn (c + b))
      have g1 := Int.mul_nonneg (show 0 ≤ x1 - x by omega) (show 0 ≤ -(c * (c + b)) by omega)
      have g2 := Int.mul_nonneg (show 0 ≤ x2 - x by omega) (sq_nn c)
      by_cases hc0 : c = 0
      · subst hc0
        have := Int.mul_pos (show 0 < x0 - x by omega) (sq_pos (show (0 : Int) + b ≠ 0 by omega))
        omega
      · have := Int.mul_pos (show 0 < x2 - x by omega) (sq_pos hc0)
        omega
  · rw [if_neg ha]
    exact cntQ_left (m1 := x1 - x) (m2 := x2 - x) ha (by omega) (by omega) (by omega) (by omega) (by omega)
theorem cntC_off {x0 y0 x1 y1 x2 y2 x y : Int} (h : (y < y0 ∧ y < y1 ∧ y < y2) ∨ (y0 < y ∧ y1 < y ∧ y2 < y)) : cntC x0 y0 x1 y1 x2 y2 x y = 0 := by
  unfold cntC
  by_cases ha : y0 - 2 * y1 + y2 = 0
  · rw [if_pos ha, if_pos]
    refine .inr (.inl ?_)
    rw [show y0 - y + 2 * (y1 - y0) = y2 - y by omega]
    rcases h with h | h
    · exact Int.mul_pos (by omega) (by omega)
    · exact Int.mul_pos_of_neg_of_neg (by omega) (by omega)
  · rw [if_neg ha]
    exact cntQ_off (m1 := y1 - y) (m2 := y2 - y) ha (by omega) (by omega) (by omega)
theorem cntC_right {x0 y0 x1 y1 x2 y2 x y : Int} (h0 : x0 ≤ x) (h1 : x1 ≤ x) (h2 : x2 ≤ x) : cntC x0 y0 x1 y1 x2 y2 x y = Hs y0 y - Hs y2 y := by
  unfold cntC
  by_cases ha : y0 - 2 * y1 + y2 = 0
  · rw [if_pos ha]
    have e0 : y0 - y + 2 * (y1 - y0) = y2 - y := by omega
    have eb : 2 * (y1 - y0) = y2 - y0 := by omega
    rw [e0, eb]
    have e : (x0 - 2 * x1 + x2) * (y0 - y) * (y0 - y) - 2 * (x1 - x0) * (y0 - y) * (y2 - y0) + (x0 - x) * (y2 - y0) * (y2 - y0) = -((x - x0) * ((y2 - y) * (y2 - y)) + 2 * ((x - x1) * (-((y0 - y) * (y2 - y)))) + (x - x2) * ((y0 - y) * (y0 - y))) := by grind
    rw [e]
    split
    · rename_i h
      unfold Hs
      rcases h with h | h | h
      · rw [show y2 = y0 by omega]; omega
      · rcases Int.lt_or_le y y0 with g1 | g1
        · have g2 : y < y2 := by
            rcases Int.lt_or_le y y2 with g | g
            · exact g
            · have := Int.mul_nonneg (show 0 ≤ y0 - y by omega) (show 0 ≤ -(y2 - y) by omega)
              rw [Int.mul_neg] at this; omega
          rw [if_neg (by omega), if_neg (by omega)]; rfl
        · have g2 : y2 ≤ y := by
            rcases Int.lt_or_le y y2 with g | g
            · have := Int.mul_nonneg (show 0 ≤ -(y0 - y) by omega) (show 0 ≤ y2 - y by omega)
              rw [Int.neg_mul] at this; omega
            · exact g
          rw [if_pos g1, if_pos g2]; rfl
      · omega
    · rename_i h
      rw [not_or, not_or] at h
      obtain ⟨hb, hc, hm⟩ := h
      have hcc : (y0 - y) * (y2 - y) ≤ 0 := by omega
      rw [if_neg]
      · unfold Hs sg
        rcases Int.lt_or_le y y0 with g1 | g1
        · have g2 : y2 ≤ y := by
            rcases Int.lt_or_le y y2 with g | g
            · have := Int.mul_pos (show 0 < y0 - y by omega) (show 0 < y2 - y by omega); omega
            · exact g
          omega
        · have g2 : y < y2 := by
            rcases Int.lt_or_le y y2 with g | g
            · exact g
            · rcases Int.lt_or_le y0 y with g3 | g3
              · rcases Int.lt_or_le y2 y with g4 | g4
                · have := Int.mul_pos_of_neg_of_neg (show y0 - y < 0 by omega) (show y2 - y < 0 by omega); omega
                · omega
              · omega
          omega
      · have g0 := Int.mul_nonneg (show 0 ≤ x - x0 by omega) (sq_nn (y2 - y))
        have g1 := Int.mul_nonneg (show 0 ≤ x - x1 by omega) (show 0 ≤ -((y0 - y) * (y2 - y)) by omega)
        have g2 := Int.mul_nonneg (show 0 ≤ x - x2 by omega) (sq_nn (y0 - y))
        omega
  · rw [if_neg ha]
    have h := cntQ_right (b := 2 * (y1 - y0)) (c := y0 - y) (m1 := x1 - x) (m2 := x2 - x) ha (show x0 - x ≤ 0 by omega) (by omega) (by omega) (show x0 - 2 * x1 + x2 = _ by omega) (show 2 * (x1 - x0) = _ by omega)
    rw [h]
    unfold Hs
    rw [show y0 - 2 * y1 + y2 + 2 * (y1 - y0) + (y0 - y) = y2 - y by omega]
    omega
theorem cntL_left {x0 y0 x2 y2 x y : Int} (h0 : x < x0) (h2 : x < x2) : cntL x0 y0 x2 y2 x y = 0 := by
  unfold cntL
  split
  · rfl
  · rename_i h
    rw [if_pos]
    have e : (x2 - x0) * (y - y0) - (x - x0) * (y2 - y0) = (x2 - x) * (y - y0) + (x0 - x) * (y2 - y) := by grind
    rw [e]
    rcases Int.lt_or_le y0 y2 with g | g
    · rw [sg_pos (by omega), Int.one_mul]
      have g0 := Int.mul_nonneg (show 0 ≤ x2 - x by omega) (show 0 ≤ y - y0 by omega)
      have g1 := Int.mul_pos (show 0 < x0 - x by omega) (show 0 < y2 - y by omega)
      omega
    · rw [sg_neg (by omega)]
      have g0 := Int.mul_pos (show 0 < x2 - x by omega) (show 0 < -(y - y0) by omega)
      have g1 := Int.mul_nonneg (show 0 ≤ x0 - x by omega) (show 0 ≤ -(y2 - y) by omega)
      rw [Int.mul_neg] at g0 g1
      omega
theorem cntL_off {x0 y0 x2 y2 x y : Int} (h : (y < y0 ∧ y < y2) ∨ (y0 < y ∧ y2 < y)) : cntL x0 y0 x2 y2 x y = 0 := by
  unfold cntL
  rw [if_pos (by omega)]
theorem cntL_right {x0 y0 x2 y2 x y : Int} (h0 : x0 ≤ x) (h2 : x2 ≤ x) : cntL x0 y0 x2 y2 x y = Hs y0 y - Hs y2 y := by
  unfold cntL Hs
  split
  · omega
  · rename_i h
    have e : (x2 - x0) * (y - y0) - (x - x0) * (y2 - y0) = -((x - x2) * (y - y0) + (x - x0) * (y2 - y)) := by grind
    rw [e, if_neg]
    · unfold sg; omega
    · rcases Int.lt_or_le y0 y2 with g | g
      · rw [sg_pos (by omega), Int.one_mul]
        have g0 := Int.mul_nonneg (show 0 ≤ x - x2 by omega) (show 0 ≤ y - y0 by omega)
        have g1 := Int.mul_nonneg (show 0 ≤ x - x0 by omega) (show 0 ≤ y2 - y by omega)
        omega
      · rw [sg_neg (by omega)]
        have g0 := Int.mul_nonneg (show 0 ≤ x - x2 by omega) (show 0 ≤ -(y - y0) by omega)
        have g1 := Int.mul_nonneg (show 0 ≤ x - x0 by omega) (show 0 ≤ -(y2 - y) by omega)
        rw [Int.mul_neg] at g0 g1
        omega
end Go.Proofs.YtleljodcdbhifaaDoor
namespace Go.Proofs.YtleljodcdbhifaaDoor.Hy
open Go.RowKit Go.Proofs.YtleljodcdbhifaaDoorW.PrintWords Go.Proofs.YtleljodcdbhifaaDoorW.PrintLast Go.Proofs.YtleljodcdbhifaaDoorW.PrintMore
attribute [local go_sem] max2_int min2_int max_two min_two max_three min_three max_four min_four   -- for this text's walks alone
set_option linter.unusedVariables false
set_option linter.unusedSimpArgs false
/-! ### scan_near: function 31 -/
def scan_near.f (a0 : Int) : Option (Bool) := if (-4096) ≤ a0 then (some (decide (a0 ≤ 4096))) else (some false)
set_option maxHeartbeats 8000000 in
set_option maxRecDepth 100000 in
theorem scan_near.calls (a0 : Int) (r : Bool) (w : World) (h : scan_near.f a0 = some r) :
    Calls Tryd.prog 31 #[.int .i64 a0] w fun e w' => e = .returned (.bool r) ∧ Drawn0 w w' := by
  have H : (if (-4096) ≤ a0 then (some (decide (a0 ≤ 4096))) else (some false)) = some r := h
  clear h
  by_cases c2 : (-4096) ≤ a0
  · rw [if_pos c2] at H
    have c2b0 : decide ((-4096) ≤ a0) = true := decide_eq_true c2
    clear c2
    obtain rfl := Option.some.inj H
    go_enter Tryd.func31, Tryd.ntmps31
    go_wp2
    go_ret
    exact ⟨by first | rfl | (simp; done) | (simp [*]; done), by repeat (first | exact Drawn0.refl _ | apply Drawn0.step)⟩
  · rw [if_neg c2] at H
    have c2b0 : decide ((-4096) ≤ a0) = false := decide_eq_false c2
    clear c2
    obtain rfl := Option.some.inj H
    go_enter Tryd.func31, Tryd.ntmps31
    go_wp2
    go_ret
    exact ⟨by first | rfl | (simp; done) | (simp [*]; done), by repeat (first | exact Drawn0.refl _ | apply Drawn0.step)⟩
/-! ### scan_sign: function 60 -/
def scan_sign.f (a0 : Int) : Option (Int) := if a0 < 0 then (some (-1)) else (if a0 > 0 then (some 1) else (some 0))
set_option maxHeartbeats 8000000 in
set_option maxRecDepth 100000 in
theorem scan_sign.calls (a0 : Int) (r : Int) (w : World) (h : scan_sign.f a0 = some r) :
    Calls Tryd.prog 60 #[.int .i64 a0] w fun e w' => e = .returned (.int .i64 r) ∧ Drawn0 w w' := by
  have H : (if a0 < 0 then (some (-1)) else (if a0 > 0 then (some 1) else (some 0))) = some r := h
  clear h
  by_cases c2 : a0 < 0
  · rw [if_pos c2] at H
    have c2b0 : decide (a0 < 0) = true := decide_eq_true c2
    clear c2
    obtain rfl := Option.some.inj H
    go_enter Tryd.func60, Tryd.ntmps60
    go_wp2
    go_ret
    exact ⟨by first | rfl | (simp; done) | (simp [*]; done), by repeat (first | exact Drawn0.refl _ | apply Drawn0.step)⟩
  · rw [if_neg c2] at H
    have c2b0 : decide (a0 < 0) = false := decide_eq_false c2
    clear c2
    by_cases c3 : a0 > 0
    · rw [if_pos c3] at H
      have c3b0 : decide (0 < a0) = true := decide_eq_true c3
      clear c3
      obtain rfl := Option.some.inj H
      go_enter Tryd.func60, Tryd.ntmps60
      go_wp2
      go_ret
      exact ⟨by first | rfl | (simp; done) | (simp [*]; done), by repeat (first | exact Drawn0.refl _ | apply Drawn0.step)⟩
    · rw [if_neg c3] at H
      have c3b0 : decide (0 < a0) = false := decide_eq_false c3
      clear c3
      obtain rfl := Option.some.inj H
      go_enter Tryd.func60, Tryd.ntmps60
      go_wp2
      go_ret
      exact ⟨by first | rfl | (simp; done) | (simp [*]; done), by repeat (first | exact Drawn0.refl _ | apply Drawn0.step)⟩
/-! ### scan_piece_straight: function 62 -/
def scan_piece_straight.j0 : Nat → Int → Int → Bool → Int → Int → Int → Int → Int → Int → Bool → Option (Int)
  | 0, _, _, _, _, _, _, _, _, _, _ => none
  | k + 1, x1, x2, x23, x102000, x102001, x102002, x102003, x102004, x102005, x102006 => if x23 = true then (some 0) else ((scan_sign.f (wrap64 (x102005 - x102001))).bind fun t102 => (if (wrap64 (t102 * (wrap64 ((wrap64 ((wrap64 (x102004 - x102000)) * (wrap64 (x2 - x102001)))) - (wrap64 ((wrap64 (x1 - x102000)) * (wrap64 (x102005 - x102001)))))))) > 0 then (some 0) else (some t102)))
def scan_piece_straight.f (k : Nat) (a0_0 : Int) (a0_1 : Int) (a0_2 : Int) (a0_3 : Int) (a0_4 : Int) (a0_5 : Int) (a0_6 : Bool) (a1 : Int) (a2 : Int) : Option (Int) := if a2 < (mn a0_1 a0_5) then (scan_piece_straight.j0 k a1 a2 true a0_0 a0_1 a0_2 a0_3 a0_4 a0_5 a0_6) else (scan_piece_straight.j0 k a1 a2 (decide (a2 ≥ (mx a0_1 a0_5))) a0_0 a0_1 a0_2 a0_3 a0_4 a0_5 a0_6)
theorem scan_piece_straight.mono_l : ∀ k, (∀ y0 y1 y2 y3 y4 y5 y6 y7 y8 y9, LeO (scan_piece_straight.j0 k y0 y1 y2 y3 y4 y5 y6 y7 y8 y9) (scan_piece_straight.j0 (k + 1) y0 y1 y2 y3 y4 y5 y6 y7 y8 y9))
  | 0 => fun _ _ _ _ _ _ _ _ _ _ r h => by simp [scan_piece_straight.j0] at h
  | k + 1 => by
    have ih0 := scan_piece_straight.mono_l k
    · intro y0 y1 y2 y3 y4 y5 y6 y7 y8 y9
      unfold scan_piece_straight.j0
      repeat' first
      | (with_reducible exact ih0 _ _ _ _ _ _ _ _ _ _)
      | (with_reducible exact LeO.refl _)
      | (with_reducible exact LeO.none _)
      | (with_reducible refine LeO.ite ?_ ?_)
      | (with_reducible refine LeO.bind ?_ (fun _ => ?_))
      | exact ih0 _ _ _ _ _ _ _ _ _ _
      | exact LeO.none _
      | refine LeO.ite ?_ ?_
      | refine LeO.bind ?_ (fun _ => ?_)
theorem scan_piece_straight.mono : ∀ a0 a1 a2 a3 a4 a5 a6 a7 a8 k, LeO (scan_piece_straight.f k a0 a1 a2 a3 a4 a5 a6 a7 a8) (scan_piece_straight.f (k + 1) a0 a1 a2 a3 a4 a5 a6 a7 a8) := by
  intro a0 a1 a2 a3 a4 a5 a6 a7 a8 k
  have ih0 := scan_piece_straight.mono_l k
  unfold scan_piece_straight.f
  repeat' first
      | (with_reducible exact ih0 _ _ _ _ _ _ _ _ _ _)
      | (with_reducible exact LeO.refl _)
      | (with_reducible exact LeO.none _)
      | (with_reducible refine LeO.ite ?_ ?_)
      | (with_reducible refine LeO.bind ?_ (fun _ => ?_))
      | exact ih0 _ _ _ _ _ _ _ _ _ _
      | exact LeO.none _
      | refine LeO.ite ?_ ?_
      | refine LeO.bind ?_ (fun _ => ?_)
set_option maxHeartbeats 8000000 in
set_option maxRecDepth 100000 in
theorem scan_piece_straight.calls (k : Nat) (a0_0 : Int) (a0_1 : Int) (a0_2 : Int) (a0_3 : Int) (a0_4 : Int) (a0_5 : Int) (a0_6 : Bool) (a1 : Int) (a2 : Int) (r : Int) (w : World) (h : scan_piece_straight.f k a0_0 a0_1 a0_2 a0_3 a0_4 a0_5 a0_6 a1 a2 = some r) :
    Calls Tryd.prog 62 #[.agg #[.int .i64 a0_0, .int .i64 a0_1, .int .i64 a0_2, .int .i64 a0_3, .int .i64 a0_4, .int .i64 a0_5, .bool a0_6], .int .i64 a1, .int .i64 a2] w fun e w' => e = .returned (.int .i64 r) ∧ Below w.heap.size w w' := by
  have hu84 := Tryd.underlying84
  have HB := Aside0.mk (Below.refl w.heap.size w)
  have H : (if a2 < (mn a0_1 a0_5) then (scan_piece_straight.j0 k a1 a2 true a0_0 a0_1 a0_2 a0_3 a0_4 a0_5 a0_6) else (scan_piece_straight.j0 k a1 a2 (decide (a2 ≥ (mx a0_1 a0_5))) a0_0 a0_1 a0_2 a0_3 a0_4 a0_5 a0_6)) = some r := h
  clear h
  have HC4 := Aside0.mk H
  clear H
  go_enter Tryd.func62, Tryd.ntmps62
  go_upto_region 1 with (first | ((with_reducible refine gate_dst (N := 3) rfl ?_); (try (refine gate_guard (by rfl) ?_; dsimp only)); refine box_event ?hg (N := 3) ?hd (cs := #[.int .i64 a0_0, .int .i64 a0_1, .int .i64 a0_2, .int .i64 a0_3, .int .i64 a0_4, .int .i64 a0_5, .bool a0_6]) (t := 84) ?hr ?_; (case hd => rfl); (case hg => rfl); (case hr => first | (go_simp; done) | (go_simp; rfl)); intro gb101 hg w5 hbox hb; have n0_ := Aside0.mk (below_step (by repeat (first | (with_reducible first | exact HB.out | apply below_alloc | apply pw_below_drewN | apply below_drew1) | exact HB.out)) hb); have n1_ := Aside0.mk (hbox); have n2_ := Aside0.mk ((by rw [hg]; exact (below_size (by repeat (first | (with_reducible first | exact HB.out | apply below_alloc | apply pw_below_drewN | apply below_drew1) | exact HB.out))) : w.heap.size ≤ gb101)); have n3_ := Aside0.mk ((by rw [hg]; exact (below_size (by repeat (first | (with_reducible first | exact HB.out | apply below_alloc | apply pw_below_drewN | apply below_drew1) | exact HB.out))) : w.heap.size ≤ gb101)); clear HB; have HB := n0_; have BK101 := n1_; have GW101 := n2_; have GE101 := n3_; clear n0_ n1_ n2_ n3_; clear hb hbox hg))
  (try simp only [Act.put, List.setIfInBounds_toArray, List.set_cons_zero, List.set_cons_succ])
  go_cut [23] (fun v23 wc => ∃ (kq : Nat) (x23_3 : Bool), v23 = .bool x23_3 ∧ Aside0 (scan_piece_straight.j0 kq a1 a2 x23_3 a0_0 a0_1 a0_2 a0_3 a0_4 a0_5 a0_6 = some r) ∧ Aside0 (kq ≤ k) ∧ Aside0 (wc.heap[gb101]? = some (.cells #[.int .i64 a0_0, .int .i64 a0_1, .int .i64 a0_2, .int .i64 a0_3, .int .i64 a0_4, .int .i64 a0_5, .bool a0_6] 84 (0, 0))) ∧ Aside0 (Below w.heap.size w wc))
  case first =>
    have H := HC4.out
    clear HC4
    obtain ⟨ji6, hji6⟩ : ∃ j_ : Int, (mn a0_1 a0_5) = j_ := ⟨_, rfl⟩
    replace H : (if a2 < (ji6) then (scan_piece_straight.j0 k a1 a2 true a0_0 a0_1 a0_2 a0_3 a0_4 a0_5 a0_6) else (scan_piece_straight.j0 k a1 a2 (decide (a2 ≥ (mx a0_1 a0_5))) a0_0 a0_1 a0_2 a0_3 a0_4 a0_5 a0_6)) = some r := by first | (rw [hji6] at H; exact H) | (simp only [hji6] at H ⊢; exact H)
    have hji6_ : (if a0_5 < a0_1 then a0_5 else a0_1) = ji6 := hji6
    by_cases c7 : a2 < (ji6)
    · rw [if_pos c7] at H
      have c7b0 : decide (a2 < (ji6)) = true := decide_eq_true c7
      clear c7
      (first | rw [c7b0] | (simp only [i64_w, i32_w]; rw [c7b0]) | skip)
      have H' := Aside0.mk H
      clear H
      have hcz8_0 : w5.cell? ⟨gb101, 0, none⟩ = some (.int .i64 a0_0) := (blk_cell BK101.out 0).trans rfl
      have hcz8_1 : w5.cell? ⟨gb101, 1, none⟩ = some (.int .i64 a0_1) := (blk_cell BK101.out 1).trans rfl
      have hcz8_2 : w5.cell? ⟨gb101, 2, none⟩ = some (.int .i64 a0_2) := (blk_cell BK101.out 2).trans rfl
      have hcz8_3 : w5.cell? ⟨gb101, 3, none⟩ = some (.int .i64 a0_3) := (blk_cell BK101.out 3).trans rfl
      have hcz8_4 : w5.cell? ⟨gb101, 4, none⟩ = some (.int .i64 a0_4) := (blk_cell BK101.out 4).trans rfl
      have hcz8_5 : w5.cell? ⟨gb101, 5, none⟩ = some (.int .i64 a0_5) := (blk_cell BK101.out 5).trans rfl
      have hcz8_6 : w5.cell? ⟨gb101, 6, none⟩ = some (.bool a0_6) := (blk_cell BK101.out 6).trans rfl
      have hfz8_0 := blk_frozen BK101.out 0
      have hfz8_1 := blk_frozen BK101.out 1
      have hfz8_2 := blk_frozen BK101.out 2
      have hfz8_3 := blk_frozen BK101.out 3
      have hfz8_4 := blk_frozen BK101.out 4
      have hfz8_5 := blk_frozen BK101.out 5
      have hfz8_6 := blk_frozen BK101.out 6
      go_wp2
      go_meet
      case rel => exact ⟨_, (true), (by first | rfl | (simp; done) | (simp [*]; done)), H', ⟨by first | omega | exact Nat.le_refl _⟩, ⟨by (with_reducible repeat (first | refine blk_drewN ?_ _ | refine blk_drew ?_ | refine blk_alloc ?_ _)); exact BK101.out⟩, ⟨by repeat (first | (with_reducible first | exact HB.out | apply below_alloc | apply pw_below_drewN | apply below_drew1 | refine below_set ?_ GE101.out) | exact HB.out)⟩⟩
    · rw [if_neg c7] at H
      have c7b0 : decide (a2 < (ji6)) = false := decide_eq_false c7
      clear c7
      (first | rw [c7b0] | (simp only [i64_w, i32_w]; rw [c7b0]) | skip)
      obtain ⟨ji9, hji9⟩ : ∃ j_ : Int, (mx a0_1 a0_5) = j_ := ⟨_, rfl⟩
      replace H : (scan_piece_straight.j0 k a1 a2 (decide (a2 ≥ (ji9))) a0_0 a0_1 a0_2 a0_3 a0_4 a0_5 a0_6) = some r := by first | (rw [hji9] at H; exact H) | (simp only [hji9] at H ⊢; exact H)
      have hji9_ : (if a0_1 < a0_5 then a0_5 else a0_1) = ji9 := hji9
      have H' := Aside0.mk H
      clear H
      have hcz10_0 : w5.cell? ⟨gb101, 0, none⟩ = some (.int .i64 a0_0) := (blk_cell BK101.out 0).trans rfl
      have hcz10_1 : w5.cell? ⟨gb101, 1, none⟩ = some (.int .i64 a0_1) := (blk_cell BK101.out 1).trans rfl
      have hcz10_2 : w5.cell? ⟨gb101, 2, none⟩ = some (.int .i64 a0_2) := (blk_cell BK101.out 2).trans rfl
      have hcz10_3 : w5.cell? ⟨gb101, 3, none⟩ = some (.int .i64 a0_3) := (blk_cell BK101.out 3).trans rfl
      have hcz10_4 : w5.cell? ⟨gb101, 4, none⟩ = some (.int .i64 a0_4) := (blk_cell BK101.out 4).trans rfl
      have hcz10_5 : w5.cell? ⟨gb101, 5, none⟩ = some (.int .i64 a0_5) := (blk_cell BK101.out 5).trans rfl
      have hcz10_6 : w5.cell? ⟨gb101, 6, none⟩ = some (.bool a0_6) := (blk_cell BK101.out 6).trans rfl
      have hfz10_0 := blk_frozen BK101.out 0
      have hfz10_1 := blk_frozen BK101.out 1
      have hfz10_2 := blk_frozen BK101.out 2
      have hfz10_3 := blk_frozen BK101.out 3
      have hfz10_4 := blk_frozen BK101.out 4
      have hfz10_5 := blk_frozen BK101.out 5
      have hfz10_6 := blk_frozen BK101.out 6
      go_wp2
      go_meet
      case rel => exact ⟨_, (decide (a2 ≥ (ji9))), (by first | rfl | (simp; done) | (simp only [← hji9] <;> (first | rfl | simp)) | (simp [*]; done)), H', ⟨by first | omega | exact Nat.le_refl _⟩, ⟨by (with_reducible repeat (first | refine blk_drewN ?_ _ | refine blk_drew ?_ | refine blk_alloc ?_ _)); exact BK101.out⟩, ⟨by repeat (first | (with_reducible first | exact HB.out | apply below_alloc | apply pw_below_drewN | apply below_drew1 | refine below_set ?_ GE101.out) | exact HB.out)⟩⟩
  case rest =>
    clear HC4
    try clear p2
    try clear c6
    try clear c7
    try clear c7b0
    try clear hcz10_0
    try clear hcz10_1
    try clear hcz10_2
    try clear hcz10_3
    try clear hcz10_4
    try clear hcz10_5
    try clear hcz10_6
    try clear hcz8_0
    try clear hcz8_1
    try clear hcz8_2
    try clear hcz8_3
    try clear hcz8_4
    try clear hcz8_5
    try clear hcz8_6
    try clear hfz10_0
    try clear hfz10_1
    try clear hfz10_2
    try clear hfz10_3
    try clear hfz10_4
    try clear hfz10_5
    try clear hfz10_6
    try clear hfz8_0
    try clear hfz8_1
    try clear hfz8_2
    try clear hfz8_3
    try clear hfz8_4
    try clear hfz8_5
    try clear hfz8_6
    obtain ⟨kq, x23_3, rfl, HA, HJ3, BK101, HB⟩ := hcut
    cases kq with
    | zero => exact absurd HA.out (by simp [scan_piece_straight.j0])
    | succ kj3 =>
      have H := HA.out
      clear HA
      simp only [scan_piece_straight.j0] at H
      by_cases c11 : x23_3 = true
      · subst c11
        have H1 : (some 0) = some r := by rw [if_pos rfl] at H; exact H
        clear H
        have H := H1
        clear H1
        obtain rfl := Option.some.inj H
        go_wp2
        go_ret
        exact ⟨by first | rfl | (simp [errW_none, errW_some] <;> rfl) | (simp [*, errW_none, errW_some] <;> rfl), by repeat (first | (with_reducible first | exact HB.out | apply below_alloc | apply pw_below_drewN | apply below_drew1 | refine below_set ?_ GE101.out) | exact HB.out)⟩
      · replace c11 := Bool.eq_false_iff.mpr c11
        subst c11
        have H1 : ((scan_sign.f (wrap64 (a0_5 - a0_1))).bind fun t102 => (if (wrap64 (t102 * (wrap64 ((wrap64 ((wrap64 (a0_4 - a0_0)) * (wrap64 (a2 - a0_1)))) - (wrap64 ((wrap64 (a1 - a0_0)) * (wrap64 (a0_5 - a0_1)))))))) > 0 then (some 0) else (some t102))) = some r := by rw [if_neg (show ¬ (false = true) by decide)] at H; exact H
        clear H
        have H := H1
        clear H1
        replace H := Option.bind_eq_some_iff.mp H
        obtain ⟨t102, A120, H⟩ := H
        replace H : (if (wrap64 (t102 * (wrap64 ((wrap64 ((wrap64 (a0_4 - a0_0)) * (wrap64 (a2 - a0_1)))) - (wrap64 ((wrap64 (a1 - a0_0)) * (wrap64 (a0_5 - a0_1)))))))) > 0 then (some 0) else (some t102)) = some r := H
        have A12 := Aside0.mk A120
        clear A120
        by_cases c13 : (wrap64 (t102 * (wrap64 ((wrap64 ((wrap64 (a0_4 - a0_0)) * (wrap64 (a2 - a0_1)))) - (wrap64 ((wrap64 (a1 - a0_0)) * (wrap64 (a0_5 - a0_1)))))))) > 0
        · rw [if_pos c13] at H
          have c13b0 : decide (0 < (wrap64 (t102 * (wrap64 ((wrap64 ((wrap64 (a0_4 - a0_0)) * (wrap64 (a2 - a0_1)))) - (wrap64 ((wrap64 (a1 - a0_0)) * (wrap64 (a0_5 - a0_1))))))))) = true := decide_eq_true c13
          clear c13
          obtain rfl := Option.some.inj H
          have hcz14_0 : wc.cell? ⟨gb101, 0, none⟩ = some (.int .i64 a0_0) := (blk_cell BK101.out 0).trans rfl
          have hcz14_1 : wc.cell? ⟨gb101, 1, none⟩ = some (.int .i64 a0_1) := (blk_cell BK101.out 1).trans rfl
          have hcz14_2 : wc.cell? ⟨gb101, 2, none⟩ = some (.int .i64 a0_2) := (blk_cell BK101.out 2).trans rfl
          have hcz14_3 : wc.cell? ⟨gb101, 3, none⟩ = some (.int .i64 a0_3) := (blk_cell BK101.out 3).trans rfl
          have hcz14_4 : wc.cell? ⟨gb101, 4, none⟩ = some (.int .i64 a0_4) := (blk_cell BK101.out 4).trans rfl
          have hcz14_5 : wc.cell? ⟨gb101, 5, none⟩ = some (.int .i64 a0_5) := (blk_cell BK101.out 5).trans rfl
          have hcz14_6 : wc.cell? ⟨gb101, 6, none⟩ = some (.bool a0_6) := (blk_cell BK101.out 6).trans rfl
          have hfz14_0 := blk_frozen BK101.out 0
          have hfz14_1 := blk_frozen BK101.out 1
          have hfz14_2 := blk_frozen BK101.out 2
          have hfz14_3 := blk_frozen BK101.out 3
          have hfz14_4 := blk_frozen BK101.out 4
          have hfz14_5 := blk_frozen BK101.out 5
          have hfz14_6 := blk_frozen BK101.out 6
          go_wp2_with (first | ((with_reducible refine gate_callee (f := 60) rfl ?_); refine goesL_ (some 29) rfl rfl Tryd.func60 (by kernel_rfl) rfl #[.int .i64 (wrap64 (a0_5 - a0_1))] rfl (by (try simp only [List.map_toArray, List.map_cons, List.map_nil]); first | done | rfl | (simp only [List.length_drop, List.length_take]; rfl)) ?_; (with_reducible refine (scan_sign.calls (wrap64 (a0_5 - a0_1)) t102 _ A12.out).mono ?_); rintro e w' ⟨rfl, ⟨nd, rfl⟩⟩; refine ⟨_, rfl, ?_⟩))
          go_ret
          exact ⟨by first | rfl | (simp [errW_none, errW_some] <;> rfl) | (simp [*, errW_none, errW_some] <;> rfl), by repeat (first | (with_reducible first | exact HB.out | apply below_alloc | apply pw_below_drewN | apply below_drew1 | refine below_set ?_ GE101.out) | exact HB.out)⟩
        · rw [if_neg c13] at H
          have c13b0 : decide (0 < (wrap64 (t102 * (wrap64 ((wrap64 ((wrap64 (a0_4 - a0_0)) * (wrap64 (a2 - a0_1)))) - (wrap64 ((wrap64 (a1 - a0_0)) * (wrap64 (a0_5 - a0_1))))))))) = false := decide_eq_false c13
          clear c13
          obtain rfl := Option.some.inj H
          have hcz15_0 : wc.cell? ⟨gb101, 0, none⟩ = some (.int .i64 a0_0) := (blk_cell BK101.out 0).trans rfl
          have hcz15_1 : wc.cell? ⟨gb101, 1, none⟩ = some (.int .i64 a0_1) := (blk_cell BK101.out 1).trans rfl
          have hcz15_2 : wc.cell? ⟨gb101, 2, none⟩ = some (.int .i64 a0_2) := (blk_cell BK101.out 2).trans rfl
          have hcz15_3 : wc.cell? ⟨gb101, 3, none⟩ = some (.int .i64 a0_3) := (blk_cell BK101.out 3).trans rfl
          have hcz15_4 : wc.cell? ⟨gb101, 4, none⟩ = some (.int .i64 a0_4) := (blk_cell BK101.out 4).trans rfl
          have hcz15_5 : wc.cell? ⟨gb101, 5, none⟩ = some (.int .i64 a0_5) := (blk_cell BK101.out 5).trans rfl
          have hcz15_6 : wc.cell? ⟨gb101, 6, none⟩ = some (.bool a0_6) := (blk_cell BK101.out 6).trans rfl
          have hfz15_0 := blk_frozen BK101.out 0
          have hfz15_1 := blk_frozen BK101.out 1
          have hfz15_2 := blk_frozen BK101.out 2
          have hfz15_3 := blk_frozen BK101.out 3
          have hfz15_4 := blk_frozen BK101.out 4
          have hfz15_5 := blk_frozen BK101.out 5
          have hfz15_6 := blk_frozen BK101.out 6
          go_wp2_with (first | ((with_reducible refine gate_callee (f := 60) rfl ?_); refine goesL_ (some 29) rfl rfl Tryd.func60 (by kernel_rfl) rfl #[.int .i64 (wrap64 (a0_5 - a0_1))] rfl (by (try simp only [List.map_toArray, List.map_cons, List.map_nil]); first | done | rfl | (simp only [List.length_drop, List.length_take]; rfl)) ?_; (with_reducible refine (scan_sign.calls (wrap64 (a0_5 - a0_1)) t102 _ A12.out).mono ?_); rintro e w' ⟨rfl, ⟨nd, rfl⟩⟩; refine ⟨_, rfl, ?_⟩))
          go_ret
          exact ⟨by first | rfl | (simp [errW_none, errW_some] <;> rfl) | (simp [*, errW_none, errW_some] <;> rfl), by repeat (first | (with_reducible first | exact HB.out | apply below_alloc | apply pw_below_drewN | apply below_drew1 | refine below_set ?_ GE101.out) | exact HB.out)⟩
end Go.Proofs.YtleljodcdbhifaaDoor.Hy
/- What a piece counts for a point. -/
set_option linter.unusedVariables false
set_option linter.unusedSimpArgs false
namespace Go.Proofs.YtleljodcdbhifaaDoor
open Go.RowKit Go.Proofs.YtleljodcdbhifaaDoorW.PrintWords Go.Proofs.YtleljodcdbhifaaDoorW.PrintLast Go.Proofs.YtleljodcdbhifaaDoorW.PrintMore
def near13 (n : Int) : Prop := -8192 ≤ n ∧ n ≤ 8192
def near14 (n : Int) : Prop := -16384 ≤ n ∧ n ≤ 16384
instance : DecidablePred near13 := fun n => inferInstanceAs (Decidable (_ ∧ _))
instance : DecidablePred near14 := fun n => inferInstanceAs (Decidable (_ ∧ _))
theorem bnd {a b A B : Int} (h1 : -A ≤ a ∧ a ≤ A) (h2 : -B ≤ b ∧ b ≤ B) : -(A * B) ≤ a * b ∧ a * b ≤ A * B := by
  have hA : 0 ≤ A := by omega
  have k1 : 0 ≤ (A - a) * (B + b) := Int.mul_nonneg (by omega) (by omega)
  have k2 : 0 ≤ (A + a) * (B - b) := Int.mul_nonneg (by omega) (by omega)
  have k3 : 0 ≤ (A - a) * (B - b) := Int.mul_nonneg (by omega) (by omega)
  have k4 : 0 ≤ (A + a) * (B + b) := Int.mul_nonneg (by omega) (by omega)
  simp only [Int.mul_add, Int.add_mul, Int.mul_sub, Int.sub_mul] at k1 k2 k3 k4
  generalize a * b = p at *
  generalize A * B = q at *
  generalize A * b = r at *
  generalize a * B = t at *
  omega
theorem w64 {n : Int} (h : -9223372036854775808 ≤ n ∧ n ≤ 9223372036854775807) : wrap64 n = n := by unfold wrap64; omega
theorem sign_f (n : Int) : Hy.scan_sign.f n = some (sg n) := by
  unfold Hy.scan_sign.f sg
  by_cases h : n < 0
  · rw [if_pos h, if_pos h]
  · rw [if_neg h, if_neg h]
    by_cases h2 : 0 < n
    · rw [if_pos h2, if_pos h2]
    · rw [if_neg h2, if_neg h2]
theorem sg_b (n : Int) : -1 ≤ sg n ∧ sg n ≤ 1 := by unfold sg; omega
theorem straight_f (x0 y0 x1 y1 x2 y2 : Int) (cu : Bool) (x y : Int) (hx0 : near13 x0) (hy0 : near13 y0) (hx2 : near13 x2) (hy2 : near13 y2) (hx : near14 x) (hy : near14 y) :
    Hy.scan_piece_straight.f 1 x0 y0 x1 y1 x2 y2 cu x y = some (cntL x0 y0 x2 y2 x y) := by
  unfold near13 at hx0 hy0 hx2 hy2
  unfold near14 at hx hy
  have p1 := bnd (a := x2 - x0) (b := y - y0) (A := 16384) (B := 24576) (by omega) (by omega)
  have p2 := bnd (a := x - x0) (b := y2 - y0) (A := 24576) (B := 16384) (by omega) (by omega)
  have hs := sg_b (y2 - y0)
  have p3 := bnd (a := sg (y2 - y0)) (b := (x2 - x0) * (y - y0) - (x - x0) * (y2 - y0)) (A := 1) (B := 1073741824) (by omega) (by omega)
  have core : Hy.scan_piece_straight.j0 1 x y false x0 y0 x1 y1 x2 y2 cu = some (if 0 < sg (y2 - y0) * ((x2 - x0) * (y - y0) - (x - x0) * (y2 - y0)) then 0 else sg (y2 - y0)) := by
    show Hy.scan_piece_straight.j0 (0 + 1) x y false x0 y0 x1 y1 x2 y2 cu = _
    simp only [Hy.scan_piece_straight.j0]
    rw [if_neg (by decide), w64 (n := y2 - y0) (by omega), sign_f, Option.bind_some, w64 (n := x2 - x0) (by omega), w64 (n := y - y0) (by omega), w64 (n := x - x0) (by omega), w64 (n := (x2 - x0) * (y - y0)) (by omega), w64 (n := (x - x0) * (y2 - y0)) (by omega), w64 (n := (x2 - x0) * (y - y0) - (x - x0) * (y2 - y0)) (by omega), w64 (by omega)]
    split <;> rfl
  unfold Hy.scan_piece_straight.f cntL
  have e1 : mn y0 y2 = min y0 y2 := by unfold mn; omega
  have e2 : mx y0 y2 = max y0 y2 := by unfold mx; omega
  rw [e1, e2]
  by_cases h1 : y < min y0 y2
  · rw [if_pos h1, if_pos (.inl h1)]
    unfold Hy.scan_piece_straight.j0
    rfl
  · rw [if_neg h1]
    by_cases h2 : max y0 y2 ≤ y
    · rw [if_pos (.inr h2), decide_eq_true h2]
      unfold Hy.scan_piece_straight.j0
      rfl
    · rw [if_neg (by omega), decide_eq_false h2, core]
theorem straight_any (x0 y0 x1 y1 x2 y2 : Int) (cu : Bool) (x y : Int) (w : World) (hx0 : near13 x0) (hy0 : near13 y0) (hx2 : near13 x2) (hy2 : near13 y2) (hx : near14 x) (hy : near14 y) :
    Calls Tryd.prog 62 #[.agg #[.int .i64 x0, .int .i64 y0, .int .i64 x1, .int .i64 y1, .int .i64 x2, .int .i64 y2, .bool cu], .int .i64 x, .int .i64 y] w fun e w' => e = .returned (.int .i64 (cntL x0 y0 x2 y2 x y)) ∧ Below w.heap.size w w' :=
  Hy.scan_piece_straight.calls 1 x0 y0 x1 y1 x2 y2 cu x y _ w (straight_f x0 y0 x1 y1 x2 y2 cu x y hx0 hy0 hx2 hy2 hx hy)
end Go.Proofs.YtleljodcdbhifaaDoor
/- What a curve counts for a point. -/
set_option linter.unusedVariables false
set_option linter.unusedSimpArgs false
namespace Go.Proofs.YtleljodcdbhifaaDoor
open Go.RowKit Go.Proofs.YtleljodcdbhifaaDoorW.PrintWords Go.Proofs.YtleljodcdbhifaaDoorW.PrintLast Go.Proofs.YtleljodcdbhifaaDoorW.PrintMore
set_option maxRecDepth 100000 in
set_option maxHeartbeats 4000000 in
theorem curve_any (x0 y0 x1 y1 x2 y2 : Int) (x y : Int) (w : World) (hx0 : near13 x0) (hy0 : near13 y0) (hx1 : near13 x1) (hy1 : near13 y1) (hx2 : near13 x2) (hy2 : near13 y2) (hx : near14 x) (hy : near14 y) :
    Calls Tryd.prog 50 #[.agg #[.int .i64 x0, .int .i64 y0, .int .i64 x1, .int .i64 y1, .int .i64 x2, .int .i64 y2, .bool true], .int .i64 x, .int .i64 y] w fun e w' => e = .returned (.int .i64 (cntC x0 y0 x1 y1 x2 y2 x y)) ∧ Below w.heap.size w w' := by
  unfold near13 at *
  unfold near14 at *
  have hB := Blk.new w #[.int .i64 x0, .int .i64 y0, .int .i64 x1, .int .i64 y1, .int .i64 x2, .int .i64 y2, .bool true] 84 rfl
  have B := Lib.hid hB
  have H0 := Lib.hid (balloc (Below.refl w.heap.size w) (.cells #[.int .i64 x0, .int .i64 y0, .int .i64 x1, .int .i64 y1, .int .i64 x2, .int .i64 y2, .bool true] 84))
  have c0 := hB.cell 0
  have c1 := hB.cell 1
  have c2 := hB.cell 2
  have c3 := hB.cell 3
  have c4 := hB.cell 4
  have c5 := hB.cell 5
  have c6 := hB.cell 6
  simp only [List.getElem?_toArray, List.getElem?_cons_zero, List.getElem?_cons_succ] at c0 c1 c2 c3 c4 c5 c6
  clear hB
  have hu84 := Tryd.underlying84
  go_enter Tryd.func50, Tryd.ntmps50
  go_upto_region 4 with fail
  generalize w.alloc (.cells #[.int .i64 x0, .int .i64 y0, .int .i64 x1, .int .i64 y1, .int .i64 x2, .int .i64 y2, .bool true] 84) = w1 at *
  obtain ⟨g, hg⟩ : ∃ g, g = w.heap.size := ⟨_, rfl⟩
  rw [← hg] at B c0 c1 c2 c3 c4 c5 c6 ⊢
  have NG := Lib.hid hg
  clear hg
  go_quiet (fail)
  go_wp2_with fail
  go_quiet (fail)
  have R : cntC x0 y0 x1 y1 x2 y2 x y = if y0 - 2 * y1 + y2 = 0 then (if 2 * (y1 - y0) = 0 ∨ 0 < (y0 - y) * (y0 - y + 2 * (y1 - y0)) ∨ max y0 y2 = y then 0 else if 0 < (x0 - 2 * x1 + x2) * (y0 - y) * (y0 - y) - (2 * (x1 - x0)) * (y0 - y) * (2 * (y1 - y0)) + (x0 - x) * (2 * (y1 - y0)) * (2 * (y1 - y0)) then 0 else sg (2 * (y1 - y0))) else cntQ (y0 - 2 * y1 + y2) (2 * (y1 - y0)) (y0 - y) (x0 - 2 * x1 + x2) (2 * (x1 - x0)) (x0 - x) := rfl
  obtain ⟨a, ha⟩ : ∃ a, y0 - 2 * y1 + y2 = a := ⟨_, rfl⟩
  obtain ⟨b, hb⟩ : ∃ b, 2 * (y1 - y0) = b := ⟨_, rfl⟩
  obtain ⟨c, hc⟩ : ∃ c, y0 - y = c := ⟨_, rfl⟩
  obtain ⟨e, he⟩ : ∃ e, x0 - 2 * x1 + x2 = e := ⟨_, rfl⟩
  obtain ⟨f, hf⟩ : ∃ f, 2 * (x1 - x0) = f := ⟨_, rfl⟩
  obtain ⟨gg, hgg⟩ : ∃ gg, x0 - x = gg := ⟨_, rfl⟩
  rw [ha, hb, hc, he, hf, hgg] at R
  rw [ha, hb, hc, he, hf]
  generalize hw2 : World.drewN (World.drewN w1 _) _ = w2
  have H2 : Hid (Below w.heap.size w w2) := Lib.hid (by rw [← hw2]; repeat (first | exact H0.out | apply pw_below_drewN))
  have k0 : w2.cell? ⟨g, 0, none⟩ = some (.int .i64 x0) := by rw [← hw2]; exact c0
  have k1 : w2.cell? ⟨g, 1, none⟩ = some (.int .i64 y0) := by rw [← hw2]; exact c1
  have k5 : w2.cell? ⟨g, 5, none⟩ = some (.int .i64 y2) := by rw [← hw2]; exact c5
  have ba : -32768 ≤ a ∧ a ≤ 32768 := by omega
  have bb : -32768 ≤ b ∧ b ≤ 32768 := by omega
  have bc : -24576 ≤ c ∧ c ≤ 24576 := by omega
  have be : -32768 ≤ e ∧ e ≤ 32768 := by omega
  have bf : -32768 ≤ f ∧ f ≤ 32768 := by omega
  have bg : -24576 ≤ gg ∧ gg ≤ 24576 := by omega
  have RR := Lib.hid R
  have HG := Lib.hid hgg
  clear c0 c1 c2 c3 c4 c5 c6 hw2 R ha hb hc he hf hgg H0 B NG hy1 hx1
  by_cases ha : a = 0
  · as_aux_lemma =>
    have da : (a == 0) = true := by simpa using ha
    have R1 := Lib.hid (show cntC x0 y0 x1 y1 x2 y2 x y = if b = 0 ∨ 0 < c * (c + b) ∨ max y0 y2 = y then 0 else if 0 < e * c * c - f * c * b + gg * b * b then 0 else sg b by rw [RR.out, if_pos ha])
    have p1 := bnd (a := c) (b := c + b) (A := 24576) (B := 57344) (by omega) (by omega)
    have w1_ : IntKind.i64.wrap (c * (c + b)) = c * (c + b) := IntWalk.i64_in _ (by omega)
    clear RR ha p1
    by_cases hb0 : b = 0
    · have db : (b == 0) = true := by simpa using hb0
      have R2 := Lib.hid (show cntC x0 y0 x1 y1 x2 y2 x y = 0 by rw [R1.out, if_pos (.inl hb0)])
      clear R1 hb0 HG
      go_wp2_with fail
      go_ret
      exact ⟨by rw [R2.out]; rfl, H2.out⟩
    have db : (b == 0) = false := by simpa using hb0
    by_cases hc0 : 0 < c * (c + b)
    · have dc : decide (0 < c * (c + b)) = true := decide_eq_true hc0
      have R2 := Lib.hid (show cntC x0 y0 x1 y1 x2 y2 x y = 0 by rw [R1.out, if_pos (.inr (.inl hc0))])
      clear R1 hb0 HG hc0
      go_wp2_with fail
      go_ret
      exact ⟨by rw [R2.out]; rfl, H2.out⟩
    have dc : decide (0 < c * (c + b)) = false := decide_eq_false hc0
    rcases Int.lt_or_le y0 y2 with hlt | hlt
    · skip
      by_cases hm0 : max y0 y2 = y
      · have dm : (y2 == y) = true := by simp; omega
        have R2 := Lib.hid (show cntC x0 y0 x1 y1 x2 y2 x y = 0 by rw [R1.out, if_pos (.inr (.inr hm0))])
        clear R1 hb0 HG hc0 hm0
        go_wp2_with fail
        go_ret
        exact ⟨by rw [R2.out]; rfl, H2.out⟩
      have dm : (y2 == y) = false := by simp; omega
      have R2 := Lib.hid (show cntC x0 y0 x1 y1 x2 y2 x y = if 0 < e * c * c - f * c * b + gg * b * b then 0 else sg b by rw [R1.out, if_neg (by rintro (h | h | h); exact hb0 h; exact hc0 h; exact hm0 h)])
      have q1 := bnd (a := e) (b := c) (A := 32768) (B := 24576) (by omega) (by omega)
      have q2 := bnd (a := e * c) (b := c) (A := 805306368) (B := 24576) (by omega) (by omega)
      have q3 := bnd (a := f) (b := c) (A := 32768) (B := 24576) (by omega) (by omega)
      have q4 := bnd (a := f * c) (b := b) (A := 805306368) (B := 32768) (by omega) (by omega)
      have q5 := bnd (a := gg) (b := b) (A := 24576) (B := 32768) (by omega) (by omega)
      have q6 := bnd (a := gg * b) (b := b) (A := 805306368) (B := 32768) (by omega) (by omega)
      have u1 : IntKind.i64.wrap (e * c) = e * c := IntWalk.i64_in _ (by omega)
      have u2 : IntKind.i64.wrap (e * c * c) = e * c * c := IntWalk.i64_in _ (by omega)
      have u3 : IntKind.i64.wrap (f * c) = f * c := IntWalk.i64_in _ (by omega)
      have u4 : IntKind.i64.wrap (f * c * b) = f * c * b := IntWalk.i64_in _ (by omega)
      have u5 : IntKind.i64.wrap ((x0 - x) * b) = gg * b := by rw [HG.out]; exact IntWalk.i64_in _ (by omega)
      have u6 : IntKind.i64.wrap (gg * b * b) = gg * b * b := IntWalk.i64_in _ (by omega)
      have u7 : IntKind.i64.wrap (e * c * c - f * c * b) = e * c * c - f * c * b := IntWalk.i64_in _ (by omega)
      have u8 : IntKind.i64.wrap (e * c * c - f * c * b + gg * b * b) = e * c * c - f * c * b + gg * b * b := IntWalk.i64_in _ (by omega)
      clear R1 hb0 HG hc0 hm0 q1 q2 q3 q4 q5 q6
      by_cases hv : 0 < e * c * c - f * c * b + gg * b * b
      · have dv : decide (0 < e * c * c - f * c * b + gg * b * b) = true := decide_eq_true hv
        go_wp2_with fail
        go_ret
        exact ⟨by rw [R2.out, if_pos (by omega)]; rfl, H2.out⟩
      · have dv : decide (0 < e * c * c - f * c * b + gg * b * b) = false := decide_eq_false hv
        go_wp2_with fail
        refine (sign_any _ _).mono ?_
        rintro e w' ⟨rfl, rfl⟩
        go_wp2_with fail
        go_ret
        exact ⟨by rw [R2.out, if_neg (by omega)]; rfl, H2.out⟩
    · have hnl : ¬ y0 < y2 := by omega
      by_cases hm0 : max y0 y2 = y
      · have dm : (y0 == y) = true := by simp; omega
        have R2 := Lib.hid (show cntC x0 y0 x1 y1 x2 y2 x y = 0 by rw [R1.out, if_pos (.inr (.inr hm0))])
        clear R1 hb0 HG hc0 hm0
        go_wp2_with fail
        go_ret
        exact ⟨by rw [R2.out]; rfl, H2.out⟩
      have dm : (y0 == y) = false := by simp; omega
      have R2 := Lib.hid (show cntC x0 y0 x1 y1 x2 y2 x y = if 0 < e * c * c - f * c * b + gg * b * b then 0 else sg b by rw [R1.out, if_neg (by rintro (h | h | h); exact hb0 h; exact hc0 h; exact hm0 h)])
      have q1 := bnd (a := e) (b := c) (A := 32768) (B := 24576) (by omega) (by omega)
      have q2 := bnd (a := e * c) (b := c) (A := 805306368) (B := 24576) (by omega) (by omega)
      have q3 := bnd (a := f) (b := c) (A := 32768) (B := 24576) (by omega) (by omega)
      have q4 := bnd (a := f * c) (b := b) (A := 805306368) (B := 32768) (by omega) (by omega)
      have q5 := bnd (a := gg) (b := b) (A := 24576) (B := 32768) (by omega) (by omega)
      have q6 := bnd (a := gg * b) (b := b) (A := 805306368) (B := 32768) (by omega) (by omega)
      have u1 : IntKind.i64.wrap (e * c) = e * c := IntWalk.i64_in _ (by omega)
      have u2 : IntKind.i64.wrap (e * c * c) = e * c * c := IntWalk.i64_in _ (by omega)
      have u3 : IntKind.i64.wrap (f * c) = f * c := IntWalk.i64_in _ (by omega)
      have u4 : IntKind.i64.wrap (f * c * b) = f * c * b := IntWalk.i64_in _ (by omega)
      have u5 : IntKind.i64.wrap ((x0 - x) * b) = gg * b := by rw [HG.out]; exact IntWalk.i64_in _ (by omega)
      have u6 : IntKind.i64.wrap (gg * b * b) = gg * b * b := IntWalk.i64_in _ (by omega)
      have u7 : IntKind.i64.wrap (e * c * c - f * c * b) = e * c * c - f * c * b := IntWalk.i64_in _ (by omega)
      have u8 : IntKind.i64.wrap (e * c * c - f * c * b + gg * b * b) = e * c * c - f * c * b + gg * b * b := IntWalk.i64_in _ (by omega)
      clear R1 hb0 HG hc0 hm0 q1 q2 q3 q4 q5 q6
      by_cases hv : 0 < e * c * c - f * c * b + gg * b * b
      · have dv : decide (0 < e * c * c - f * c * b + gg * b * b) = true := decide_eq_true hv
        go_wp2_with fail
        go_ret
        exact ⟨by rw [R2.out, if_pos (by omega)]; rfl, H2.out⟩
      · have dv : decide (0 < e * c * c - f * c * b + gg * b * b) = false := decide_eq_false hv
        go_wp2_with fail
        refine (sign_any _ _).mono ?_
        rintro e w' ⟨rfl, rfl⟩
        go_wp2_with fail
        go_ret
        exact ⟨by rw [R2.out, if_neg (by omega)]; rfl, H2.out⟩
  · as_aux_lemma =>
    have da : (a == 0) = false := by simpa using ha
    have R1 := Lib.hid (show cntC x0 y0 x1 y1 x2 y2 x y = cntQ a b c e f gg by rw [RR.out, if_neg ha])
    clear RR ha
    have q1 := bnd (a := b) (b := b) (A := 32768) (B := 32768) (by omega) (by omega)
    have q2 := bnd (a := 4 * a) (b := c) (A := 131072) (B := 24576) (by omega) (by omega)
    have q3 := bnd (a := a) (b := f) (A := 32768) (B := 32768) (by omega) (by omega)
    have q4 := bnd (a := e) (b := b) (A := 32768) (B := 32768) (by omega) (by omega)
    have q5 := bnd (a := a) (b := gg) (A := 32768) (B := 24576) (by omega) (by omega)
    have q6 := bnd (a := e) (b := c) (A := 32768) (B := 24576) (by omega) (by omega)
    have q7 := bnd (a := 2 * a) (b := a * gg - e * c) (A := 65536) (B := 1610612736) (by omega) (by omega)
    have q8 := bnd (a := b) (b := a * f - e * b) (A := 32768) (B := 2147483648) (by omega) (by omega)
    have u1 : IntKind.i64.wrap (b * b) = b * b := IntWalk.i64_in _ (by omega)
    have u2 : IntKind.i64.wrap (4 * a * c) = 4 * a * c := IntWalk.i64_in _ (by omega)
    have u3 : IntKind.i64.wrap (b * b - 4 * a * c) = b * b - 4 * a * c := IntWalk.i64_in _ (by omega)
    have u4 : IntKind.i64.wrap (a * f) = a * f := IntWalk.i64_in _ (by omega)
    have u5 : IntKind.i64.wrap (e * b) = e * b := IntWalk.i64_in _ (by omega)
    have u6 : IntKind.i64.wrap (a * f - e * b) = a * f - e * b := IntWalk.i64_in _ (by omega)
    obtain ⟨D, hD⟩ : ∃ D, b * b - 4 * a * c = D := ⟨_, rfl⟩
    obtain ⟨kk, hk⟩ : ∃ kk, a * f - e * b = kk := ⟨_, rfl⟩
    obtain ⟨pp, hp⟩ : ∃ pp, 2 * a * (a * gg - e * c) - b * kk = pp := ⟨_, rfl⟩
    have bD : -9000000000 ≤ D ∧ D ≤ 9000000000 := by omega
    have bk : -2147483648 ≤ kk ∧ kk ≤ 2147483648 := by omega
    have u7 : IntKind.i64.wrap (a * (x0 - x)) = a * gg := by rw [HG.out]; exact IntWalk.i64_in _ (by omega)
    have u8 : IntKind.i64.wrap (e * c) = e * c := IntWalk.i64_in _ (by omega)
    have u9 : IntKind.i64.wrap (a * gg - e * c) = a * gg - e * c := IntWalk.i64_in _ (by omega)
    have v1 : IntKind.i64.wrap (2 * a * (a * gg - e * c)) = 2 * a * (a * gg - e * c) := IntWalk.i64_in _ (by omega)
    rw [hk] at q8
    have v2 : IntKind.i64.wrap (b * kk) = b * kk := IntWalk.i64_in _ (by omega)
    have v3 : IntKind.i64.wrap (2 * a * (a * gg - e * c) - b * kk) = pp := by rw [hp]; exact IntWalk.i64_in _ (by omega)
    have bp : -200000000000000 ≤ pp ∧ pp ≤ 200000000000000 := by omega
    replace u3 : IntKind.i64.wrap (b * b - 4 * a * c) = D := u3.trans hD
    replace u6 : IntKind.i64.wrap (a * f - e * b) = kk := u6.trans hk
    have R2 := Lib.hid (show cntC x0 y0 x1 y1 x2 y2 x y = if D < 0 ∨ (D = 0 ∧ a < 0) then 0 else (if 0 ≤ sg a * rt (-b) 1 D ∧ sg a * rt (-b - 2 * a) 1 D < 0 ∧ rt pp kk D ≤ 0 then 1 else 0) - (if 0 < sg a * rt (-b) (-1) D ∧ sg a * rt (-b - 2 * a) (-1) D ≤ 0 ∧ rt pp (-kk) D ≤ 0 then 1 else 0) by
      rw [R1.out]; unfold cntQ; rw [hD, hk, hp])
    clear R1 hD hk hp q1 q2 q3 q4 q5 q6 q7 q8 HG
    by_cases hd1 : D < 0
    · have d1 : decide (D < 0) = true := decide_eq_true hd1
      have R3 := Lib.hid (show cntC x0 y0 x1 y1 x2 y2 x y = 0 by rw [R2.out, if_pos (.inl hd1)])
      clear R2 hd1
      go_wp2_with fail
      go_ret
      exact ⟨by rw [R3.out]; rfl, H2.out⟩
    have d1 : decide (D < 0) = false := decide_eq_false hd1
    by_cases hd2 : D = 0 ∧ a < 0
    · have e1 : (D == 0) = true := by simp [hd2.1]
      have e2 : decide (a < 0) = true := decide_eq_true hd2.2
      have R3 := Lib.hid (show cntC x0 y0 x1 y1 x2 y2 x y = 0 by rw [R2.out, if_pos (.inr hd2)])
      clear R2 hd1 hd2
      go_wp2_with fail
      go_ret
      exact ⟨by rw [R3.out]; rfl, H2.out⟩
    have R3 := Lib.hid (show cntC x0 y0 x1 y1 x2 y2 x y = (if 0 ≤ sg a * rt (-b) 1 D ∧ sg a * rt (-b - 2 * a) 1 D < 0 ∧ rt pp kk D ≤ 0 then 1 else 0) - (if 0 < sg a * rt (-b) (-1) D ∧ sg a * rt (-b - 2 * a) (-1) D ≤ 0 ∧ rt pp (-kk) D ≤ 0 then 1 else 0) by
      rw [R2.out, if_neg (by omega)])
    have e1 : (D == 0) = false ∨ ((D == 0) = true ∧ decide (a < 0) = false) := by
      by_cases h : D = 0
      · exact .inr ⟨by simp [h], decide_eq_false (fun h' => hd2 ⟨h, h'⟩)⟩
      · exact .inl (by simpa using h)
    have bD0 : 0 ≤ D := by omega
    have bkk : kk * kk ≤ 4611686018427387904 := by
      have := bnd (a := kk) (b := kk) (A := 2147483648) (B := 2147483648) (by omega) (by omega)
      omega
    have bkn : -kk * -kk ≤ 4611686018427387904 := by rw [Int.neg_mul_neg]; exact bkk
    clear R2 hd1 hd2
    obtain ⟨s, hs⟩ : ∃ s, sg a = s := ⟨_, rfl⟩
    have bs := sg_b a
    have c1 := rt_cases (-b) 1 D
    have c2 := rt_cases (-b - 2 * a) 1 D
    have c3 := rt_cases pp kk D
    have c4 := rt_cases (-b) (-1) D
    have c5 := rt_cases (-b - 2 * a) (-1) D
    have c6 := rt_cases pp (-kk) D
    obtain ⟨r1, h1⟩ : ∃ r, rt (-b) 1 D = r := ⟨_, rfl⟩
    obtain ⟨r2, h2⟩ : ∃ r, rt (-b - 2 * a) 1 D = r := ⟨_, rfl⟩
    obtain ⟨r3, h3⟩ : ∃ r, rt pp kk D = r := ⟨_, rfl⟩
    obtain ⟨r4, h4⟩ : ∃ r, rt (-b) (-1) D = r := ⟨_, rfl⟩
    obtain ⟨r5, h5⟩ : ∃ r, rt (-b - 2 * a) (-1) D = r := ⟨_, rfl⟩
    obtain ⟨r6, h6⟩ : ∃ r, rt pp (-kk) D = r := ⟨_, rfl⟩
    rw [hs] at bs
    rw [h1] at c1
    rw [h2] at c2
    rw [h3] at c3
    rw [h4] at c4
    rw [h5] at c5
    rw [h6] at c6
    have b1 := bnd (a := s) (b := r1) (A := 1) (B := 1) (by omega) (by omega)
    have b2 := bnd (a := s) (b := r2) (A := 1) (B := 1) (by omega) (by omega)
    have b4 := bnd (a := s) (b := r4) (A := 1) (B := 1) (by omega) (by omega)
    have b5 := bnd (a := s) (b := r5) (A := 1) (B := 1) (by omega) (by omega)
    have z1 : IntKind.i64.wrap (s * r1) = s * r1 := IntWalk.i64_in _ (by omega)
    have z2 : IntKind.i64.wrap (s * r2) = s * r2 := IntWalk.i64_in _ (by omega)
    have z4 : IntKind.i64.wrap (s * r4) = s * r4 := IntWalk.i64_in _ (by omega)
    have z5 : IntKind.i64.wrap (s * r5) = s * r5 := IntWalk.i64_in _ (by omega)
    rw [hs, h1, h2, h3, h4, h5, h6] at R3
    have HS := Lib.hid hs
    have K1 := Lib.hid h1
    have K2 := Lib.hid h2
    have K3 := Lib.hid h3
    have K4 := Lib.hid h4
    have K5 := Lib.hid h5
    have K6 := Lib.hid h6
    have bs0 : -1 ≤ s := bs.1
    have bs1 : s ≤ 1 := bs.2
    have br3 : -1 ≤ r3 ∧ r3 ≤ 1 := by omega
    have br6 : -1 ≤ r6 ∧ r6 ≤ 1 := by omega
    have n1 : b ≠ -9223372036854775808 := by omega
    clear hs h1 h2 h3 h4 h5 h6 c1 c2 c3 c4 c5 c6 b1 b2 b4 b5 bs
    have bpn : pp.natAbs < 9223372036854775808 := by omega
    go_upto_region 13 with fail
    go_cut [121] (fun v wx => v = .bool false ∧ wx = w2)
    case first => as_aux_lemma =>
      rcases e1 with e1 | ⟨e1, e2⟩
      all_goals
        go_wp2_with fail
        go_meet
        case rel => exact ⟨rfl, rfl⟩
    case rest => as_aux_lemma =>
      obtain ⟨rfl, hww⟩ := hcut
      subst hww
      clear e1
      go_wp2_with fail
      refine (sign_any _ _).mono ?_
      rintro e w' ⟨rfl, rfl⟩
      rw [HS.out]
      go_upto_region 19 with fail
      obtain ⟨B1, hB1⟩ : ∃ B : Bool, decide (0 ≤ s * r1 ∧ s * r2 < 0 ∧ r3 ≤ 0) = B := ⟨_, rfl⟩
      have HB := Lib.hid hB1
      clear hB1
      go_cut [176] (fun v wx => v = .bool B1 ∧ wx = wc)
      case first => as_aux_lemma =>
        by_cases c1 : 0 ≤ s * r1
        · have f1 : decide (0 ≤ s * r1) = true := decide_eq_true c1
          by_cases c2 : s * r2 < 0
          · have f2 : decide (s * r2 < 0) = true := decide_eq_true c2
            by_cases c3 : r3 ≤ 0
            · have f3 : decide (r3 ≤ 0) = true := decide_eq_true c3
              have FF := Lib.hid (decide_eq_true (p := 0 ≤ s * r1 ∧ s * r2 < 0 ∧ r3 ≤ 0) ⟨c1, c2, c3⟩)
              clear c1 c2 c3
              go_wp2_with fail
              refine (root_any _ _ _ _ (by omega) (by omega) (by omega) (by omega)).mono ?_
              rintro e w' ⟨rfl, rfl⟩
              rw [K1.out]
              go_wp2_with fail
              refine (root_any _ _ _ _ (by omega) (by omega) (by omega) (by omega)).mono ?_
              rintro e w' ⟨rfl, rfl⟩
              rw [K2.out]
              go_wp2_with fail
              refine (root_any _ _ _ _ (by omega) (by omega) (by omega) (by omega)).mono ?_
              rintro e w' ⟨rfl, rfl⟩
              rw [K3.out]
              go_wp2_with fail
              go_meet
              case rel => exact ⟨by rw [← HB.out, FF.out], rfl⟩
            · have f3 : decide (r3 ≤ 0) = false := decide_eq_false c3
              have FF := Lib.hid (decide_eq_false (p := 0 ≤ s * r1 ∧ s * r2 < 0 ∧ r3 ≤ 0) (fun h => c3 h.2.2))
              clear c1 c2 c3
              go_wp2_with fail
              refine (root_any _ _ _ _ (by omega) (by omega) (by omega) (by omega)).mono ?_
              rintro e w' ⟨rfl, rfl⟩
              rw [K1.out]
              go_wp2_with fail
              refine (root_any _ _ _ _ (by omega) (by omega) (by omega) (by omega)).mono ?_
              rintro e w' ⟨rfl, rfl⟩
              rw [K2.out]
              go_wp2_with fail
              refine (root_any _ _ _ _ (by omega) (by omega) (by omega) (by omega)).mono ?_
              rintro e w' ⟨rfl, rfl⟩
              rw [K3.out]
              go_wp2_with fail
              go_meet
              case rel => exact ⟨by rw [← HB.out, FF.out], rfl⟩
          · have f2 : decide (s * r2 < 0) = false := decide_eq_false c2
            have FF := Lib.hid (decide_eq_false (p := 0 ≤ s * r1 ∧ s * r2 < 0 ∧ r3 ≤ 0) (fun h => c2 h.2.1))
            clear c1 c2
            go_wp2_with fail
            refine (root_any _ _ _ _ (by omega) (by omega) (by omega) (by omega)).mono ?_
            rintro e w' ⟨rfl, rfl⟩
            rw [K1.out]
            go_wp2_with fail
            refine (root_any _ _ _ _ (by omega) (by omega) (by omega) (by omega)).mono ?_
            rintro e w' ⟨rfl, rfl⟩
            rw [K2.out]
            go_wp2_with fail
            go_meet
            case rel => exact ⟨by rw [← HB.out, FF.out], rfl⟩
        · have f1 : decide (0 ≤ s * r1) = false := decide_eq_false c1
          have FF := Lib.hid (decide_eq_false (p := 0 ≤ s * r1 ∧ s * r2 < 0 ∧ r3 ≤ 0) (fun h => c1 h.1))
          clear c1
          go_wp2_with fail
          refine (root_any _ _ _ _ (by omega) (by omega) (by omega) (by omega)).mono ?_
          rintro e w' ⟨rfl, rfl⟩
          rw [K1.out]
          go_wp2_with fail
          go_meet
          case rel => exact ⟨by rw [← HB.out, FF.out], rfl⟩
      case rest => as_aux_lemma =>
        obtain ⟨rfl, rfl⟩ := hcut
        cases B1
        case true =>
          have c0 : 0 ≤ s * r1 ∧ s * r2 < 0 ∧ r3 ≤ 0 := of_decide_eq_true HB.out
          clear HB
          have R4 := Lib.hid (show cntC x0 y0 x1 y1 x2 y2 x y = 1 - (if 0 < s * r4 ∧ s * r5 ≤ 0 ∧ r6 ≤ 0 then 1 else 0) by rw [R3.out, if_pos c0])
          clear R3 c0
          go_wp2_with fail
          refine (sign_any _ _).mono ?_
          rintro e w' ⟨rfl, rfl⟩
          rw [HS.out]
          go_upto_region 22 with fail
          obtain ⟨B1, hB1⟩ : ∃ B : Bool, decide (0 < s * r4 ∧ s * r5 ≤ 0 ∧ r6 ≤ 0) = B := ⟨_, rfl⟩
          have HB := Lib.hid hB1
          clear hB1
          go_cut [210] (fun v wx => v = .bool B1 ∧ wx = wc)
          case first => as_aux_lemma =>
            by_cases c1 : 0 < s * r4
            · have f1 : decide (0 < s * r4) = true := decide_eq_true c1
              by_cases c2 : s * r5 ≤ 0
              · have f2 : decide (s * r5 ≤ 0) = true := decide_eq_true c2
                by_cases c3 : r6 ≤ 0
                · have f3 : decide (r6 ≤ 0) = true := decide_eq_true c3
                  have FF := Lib.hid (decide_eq_true (p := 0 < s * r4 ∧ s * r5 ≤ 0 ∧ r6 ≤ 0) ⟨c1, c2, c3⟩)
                  clear c1 c2 c3
                  go_wp2_with fail
                  refine (root_any _ _ _ _ (by omega) (by omega) (by omega) (by omega)).mono ?_
                  rintro e w' ⟨rfl, rfl⟩
                  rw [K4.out]
                  go_wp2_with fail
                  refine (root_any _ _ _ _ (by omega) (by omega) (by omega) (by omega)).mono ?_
                  rintro e w' ⟨rfl, rfl⟩
                  rw [K5.out]
                  go_wp2_with fail
                  refine (root_any _ _ _ _ (by omega) (by omega) (by omega) (by omega)).mono ?_
                  rintro e w' ⟨rfl, rfl⟩
                  rw [K6.out]
                  go_wp2_with fail
                  go_meet
                  case rel => exact ⟨by rw [← HB.out, FF.out], rfl⟩
                · have f3 : decide (r6 ≤ 0) = false := decide_eq_false c3
                  have FF := Lib.hid (decide_eq_false (p := 0 < s * r4 ∧ s * r5 ≤ 0 ∧ r6 ≤ 0) (fun h => c3 h.2.2))
                  clear c1 c2 c3
                  go_wp2_with fail
                  refine (root_any _ _ _ _ (by omega) (by omega) (by omega) (by omega)).mono ?_
                  rintro e w' ⟨rfl, rfl⟩
                  rw [K4.out]
                  go_wp2_with fail
                  refine (root_any _ _ _ _ (by omega) (by omega) (by omega) (by omega)).mono ?_
                  rintro e w' ⟨rfl, rfl⟩
                  rw [K5.out]
                  go_wp2_with fail
                  refine (root_any _ _ _ _ (by omega) (by omega) (by omega) (by omega)).mono ?_
                  rintro e w' ⟨rfl, rfl⟩
                  rw [K6.out]
                  go_wp2_with fail
                  go_meet
                  case rel => exact ⟨by rw [← HB.out, FF.out], rfl⟩
              · have f2 : decide (s * r5 ≤ 0) = false := decide_eq_false c2
                have FF := Lib.hid (decide_eq_false (p := 0 < s * r4 ∧ s * r5 ≤ 0 ∧ r6 ≤ 0) (fun h => c2 h.2.1))
                clear c1 c2
                go_wp2_with fail
                refine (root_any _ _ _ _ (by omega) (by omega) (by omega) (by omega)).mono ?_
                rintro e w' ⟨rfl, rfl⟩
                rw [K4.out]
                go_wp2_with fail
                refine (root_any _ _ _ _ (by omega) (by omega) (by omega) (by omega)).mono ?_
                rintro e w' ⟨rfl, rfl⟩
                rw [K5.out]
                go_wp2_with fail
                go_meet
                case rel => exact ⟨by rw [← HB.out, FF.out], rfl⟩
            · have f1 : decide (0 < s * r4) = false := decide_eq_false c1
              have FF := Lib.hid (decide_eq_false (p := 0 < s * r4 ∧ s * r5 ≤ 0 ∧ r6 ≤ 0) (fun h => c1 h.1))
              clear c1
              go_wp2_with fail
              refine (root_any _ _ _ _ (by omega) (by omega) (by omega) (by omega)).mono ?_
              rintro e w' ⟨rfl, rfl⟩
              rw [K4.out]
              go_wp2_with fail
              go_meet
              case rel => exact ⟨by rw [← HB.out, FF.out], rfl⟩
          case rest => as_aux_lemma =>
            obtain ⟨rfl, rfl⟩ := hcut
            cases B1
            case true =>
              have c0 : 0 < s * r4 ∧ s * r5 ≤ 0 ∧ r6 ≤ 0 := of_decide_eq_true HB.out
              clear HB
              have R5 := Lib.hid (show cntC x0 y0 x1 y1 x2 y2 x y = 0 by rw [R4.out, if_pos c0]; rfl)
              clear R4 c0
              go_wp2_with fail
              go_ret
              exact ⟨by rw [R5.out]; rfl, H2.out⟩
            case false =>
              have c0 : ¬ (0 < s * r4 ∧ s * r5 ≤ 0 ∧ r6 ≤ 0) := of_decide_eq_false HB.out
              clear HB
              have R5 := Lib.hid (show cntC x0 y0 x1 y1 x2 y2 x y = 1 by rw [R4.out, if_neg c0]; rfl)
              clear R4 c0
              go_wp2_with fail
              go_ret
              exact ⟨by rw [R5.out]; rfl, H2.out⟩
        case false =>
          have c0 : ¬ (0 ≤ s * r1 ∧ s * r2 < 0 ∧ r3 ≤ 0) := of_decide_eq_false HB.out
          clear HB
          have R4 := Lib.hid (show cntC x0 y0 x1 y1 x2 y2 x y = 0 - (if 0 < s * r4 ∧ s * r5 ≤ 0 ∧ r6 ≤ 0 then 1 else 0) by rw [R3.out, if_neg c0])
          clear R3 c0
          go_wp2_with fail
          refine (sign_any _ _).mono ?_
          rintro e w' ⟨rfl, rfl⟩
          rw [HS.out]
          go_upto_region 22 with fail
          obtain ⟨B1, hB1⟩ : ∃ B : Bool, decide (0 < s * r4 ∧ s * r5 ≤ 0 ∧ r6 ≤ 0) = B := ⟨_, rfl⟩
          have HB := Lib.hid hB1
          clear hB1
          go_cut [210] (fun v wx => v = .bool B1 ∧ wx = wc)
          case first => as_aux_lemma =>
            by_cases c1 : 0 < s * r4
            · have f1 : decide (0 < s * r4) = true := decide_eq_true c1
              by_cases c2 : s * r5 ≤ 0
              · have f2 : decide (s * r5 ≤ 0) = true := decide_eq_true c2
                by_cases c3 : r6 ≤ 0
                · have f3 : decide (r6 ≤ 0) = true := decide_eq_true c3
                  have FF := Lib.hid (decide_eq_true (p := 0 < s * r4 ∧ s * r5 ≤ 0 ∧ r6 ≤ 0) ⟨c1, c2, c3⟩)
                  clear c1 c2 c3
                  go_wp2_with fail
                  refine (root_any _ _ _ _ (by omega) (by omega) (by omega) (by omega)).mono ?_
                  rintro e w' ⟨rfl, rfl⟩
                  rw [K4.out]
                  go_wp2_with fail
                  refine (root_any _ _ _ _ (by omega) (by omega) (by omega) (by omega)).mono ?_
                  rintro e w' ⟨rfl, rfl⟩
                  rw [K5.out]
                  go_wp2_with fail
                  refine (root_any _ _ _ _ (by omega) (by omega) (by omega) (by omega)).mono ?_
                  rintro e w' ⟨rfl, rfl⟩
                  rw [K6.out]
                  go_wp2_with fail
                  go_meet
                  case rel => exact ⟨by rw [← HB.out, FF.out], rfl⟩
                · have f3 : decide (r6 ≤ 0) = false := decide_eq_false c3
                  have FF := Lib.hid (decide_eq_false (p := 0 < s * r4 ∧ s * r5 ≤ 0 ∧ r6 ≤ 0) (fun h => c3 h.2.2))
                  clear c1 c2 c3
                  go_wp2_with fail
                  refine (root_any _ _ _ _ (by omega) (by omega) (by omega) (by omega)).mono ?_
                  rintro e w' ⟨rfl, rfl⟩
                  rw [K4.out]
                  go_wp2_with fail
                  refine (root_any _ _ _ _ (by omega) (by omega) (by omega) (by omega)).mono ?_
                  rintro e w' ⟨rfl, rfl⟩
                  rw [K5.out]
                  go_wp2_with fail
                  refine (root_any _ _ _ _ (by omega) (by omega) (by omega) (by omega)).mono ?_
                  rintro e w' ⟨rfl, rfl⟩
                  rw [K6.out]
                  go_wp2_with fail
                  go_meet
                  case rel => exact ⟨by rw [← HB.out, FF.out], rfl⟩
              · have f2 : decide (s * r5 ≤ 0) = false := decide_eq_false c2
                have FF := Lib.hid (decide_eq_false (p := 0 < s * r4 ∧ s * r5 ≤ 0 ∧ r6 ≤ 0) (fun h => c2 h.2.1))
                clear c1 c2
                go_wp2_with fail
                refine (root_any _ _ _ _ (by omega) (by omega) (by omega) (by omega)).mono ?_
                rintro e w' ⟨rfl, rfl⟩
                rw [K4.out]
                go_wp2_with fail
                refine (root_any _ _ _ _ (by omega) (by omega) (by omega) (by omega)).mono ?_
                rintro e w' ⟨rfl, rfl⟩
                rw [K5.out]
                go_wp2_with fail
                go_meet
                case rel => exact ⟨by rw [← HB.out, FF.out], rfl⟩
            · have f1 : decide (0 < s * r4) = false := decide_eq_false c1
              have FF := Lib.hid (decide_eq_false (p := 0 < s * r4 ∧ s * r5 ≤ 0 ∧ r6 ≤ 0) (fun h => c1 h.1))
              clear c1
              go_wp2_with fail
              refine (root_any _ _ _ _ (by omega) (by omega) (by omega) (by omega)).mono ?_
              rintro e w' ⟨rfl, rfl⟩
              rw [K4.out]
              go_wp2_with fail
              go_meet
              case rel => exact ⟨by rw [← HB.out, FF.out], rfl⟩
          case rest => as_aux_lemma =>
            obtain ⟨rfl, rfl⟩ := hcut
            cases B1
            case true =>
              have c0 : 0 < s * r4 ∧ s * r5 ≤ 0 ∧ r6 ≤ 0 := of_decide_eq_true HB.out
              clear HB
              have R5 := Lib.hid (show cntC x0 y0 x1 y1 x2 y2 x y = -1 by rw [R4.out, if_pos c0]; rfl)
              clear R4 c0
              go_wp2_with fail
              go_ret
              exact ⟨by rw [R5.out]; rfl, H2.out⟩
            case false =>
              have c0 : ¬ (0 < s * r4 ∧ s * r5 ≤ 0 ∧ r6 ≤ 0) := of_decide_eq_false HB.out
              clear HB
              have R5 := Lib.hid (show cntC x0 y0 x1 y1 x2 y2 x y = 0 by rw [R4.out, if_neg c0]; rfl)
              clear R4 c0
              go_wp2_with fail
              go_ret
              exact ⟨by rw [R5.out]; rfl, H2.out⟩
end Go.Proofs.YtleljodcdbhifaaDoor
/- What a piece counts, in the print's form. -/
set_option linter.unusedVariables false
set_option linter.unusedSimpArgs false
namespace Go.Proofs.YtleljodcdbhifaaDoor
open Go.RowKit Go.Proofs.YtleljodcdbhifaaDoorW.PrintWords Go.Proofs.YtleljodcdbhifaaDoorW.PrintLast Go.Proofs.YtleljodcdbhifaaDoorW.PrintMore Hy
/-- what a piece counts -/
def cnt (x0 y0 x1 y1 x2 y2 : Int) (cu : Bool) (x y : Int) : Int := if cu = true then cntC x0 y0 x1 y1 x2 y2 x y else cntL x0 y0 x2 y2 x y
def Hy.scan_piece_counts.f (x0 y0 x1 y1 x2 y2 : Int) (cu : Bool) (x y : Int) : Option Int :=
  if near13 x0 ∧ near13 y0 ∧ near13 x1 ∧ near13 y1 ∧ near13 x2 ∧ near13 y2 ∧ near14 x ∧ near14 y then some (cnt x0 y0 x1 y1 x2 y2 cu x y) else none
set_option maxRecDepth 100000 in
set_option maxHeartbeats 1000000 in
theorem line_any (x0 y0 x1 y1 x2 y2 x y : Int) (w : World) (hx0 : near13 x0) (hy0 : near13 y0) (hx2 : near13 x2) (hy2 : near13 y2) (hx : near14 x) (hy : near14 y) :
    Calls Tryd.prog 50 #[.agg #[.int .i64 x0, .int .i64 y0, .int .i64 x1, .int .i64 y1, .int .i64 x2, .int .i64 y2, .bool false], .int .i64 x, .int .i64 y] w fun e w' => e = .returned (.int .i64 (cntL x0 y0 x2 y2 x y)) ∧ Below w.heap.size w w' := by
  have hS := Lib.hid (fun w => straight_any x0 y0 x1 y1 x2 y2 false x y w hx0 hy0 hx2 hy2 hx hy)
  have H0 := Lib.hid (balloc (Below.refl w.heap.size w) (.cells #[.int .i64 x0, .int .i64 y0, .int .i64 x1, .int .i64 y1, .int .i64 x2, .int .i64 y2, .bool false] 84))
  have hB := Blk.new w #[.int .i64 x0, .int .i64 y0, .int .i64 x1, .int .i64 y1, .int .i64 x2, .int .i64 y2, .bool false] 84 rfl
  have c0 := hB.cell 0
  have c1 := hB.cell 1
  have c2 := hB.cell 2
  have c3 := hB.cell 3
  have c4 := hB.cell 4
  have c5 := hB.cell 5
  have c6 := hB.cell 6
  simp only [List.getElem?_toArray, List.getElem?_cons_zero, List.getElem?_cons_succ] at c0 c1 c2 c3 c4 c5 c6
  clear hB hx0 hy0 hx2 hy2 hx hy
  have hu84 := Tryd.underlying84
  go_enter Tryd.func50, Tryd.ntmps50
  go_wp2_with fail
  refine (hS.out _).mono ?_
  rintro e w1 ⟨rfl, hb⟩
  go_wp2_with fail
  go_ret
  exact ⟨rfl, bthen' H0.out hb⟩
theorem Hy.scan_piece_counts.calls (x0 y0 x1 y1 x2 y2 : Int) (cu : Bool) (x y : Int) (r : Int) (w : World) (h : scan_piece_counts.f x0 y0 x1 y1 x2 y2 cu x y = some r) :
    Calls Tryd.prog 50 #[.agg #[.int .i64 x0, .int .i64 y0, .int .i64 x1, .int .i64 y1, .int .i64 x2, .int .i64 y2, .bool cu], .int .i64 x, .int .i64 y] w fun e w' => e = .returned (.int .i64 r) ∧ Below w.heap.size w w' := by
  unfold scan_piece_counts.f at h
  split at h
  · rename_i hn
    obtain ⟨h0, h1, h2, h3, h4, h5, h6, h7⟩ := hn
    obtain rfl := Option.some.inj h
    cases cu with
    | true => exact curve_any x0 y0 x1 y1 x2 y2 x y w h0 h1 h2 h3 h4 h5 h6 h7
    | false => exact line_any x0 y0 x1 y1 x2 y2 x y w h0 h1 h4 h5 h6 h7
  · cases h
end Go.Proofs.YtleljodcdbhifaaDoor
namespace Go.Proofs.YtleljodcdbhifaaDoor.Hy
open Go.RowKit Go.Proofs.YtleljodcdbhifaaDoorW.PrintWords Go.Proofs.YtleljodcdbhifaaDoorW.PrintLast Go.Proofs.YtleljodcdbhifaaDoorW.PrintMore
attribute [local go_sem] max2_int min2_int max_two min_two max_three min_three max_four min_four   -- for this text's walks alone
set_option linter.unusedVariables false
set_option linter.unusedSimpArgs false
/-! ### scan_winding: function 32 -/
def scan_winding.l0 : Nat → Int → Int → Int → List (S84) → Int → Int → Option (Int)
  | 0, _, _, _, _, _, _ => none
  | k + 1, x1, x2, x6, x9, x10, x11 => if x11 < x10 then (if 0 ≤ x11 then (if x11 < (x9.length : Int) then ((scan_piece_counts.f ((rd_T84 x9 x11).f0) ((rd_T84 x9 x11).f1) ((rd_T84 x9 x11).f2) ((rd_T84 x9 x11).f3) ((rd_T84 x9 x11).f4) ((rd_T84 x9 x11).f5) ((rd_T84 x9 x11).f6) (wrap64 (2 * x1)) (wrap64 (2 * x2))).bind fun t105 => (scan_winding.l0 k x1 x2 (wrap64 (x6 + t105)) x9 x10 (wrap64 (x11 + 1)))) else (none)) else (none)) else (some x6)
def scan_winding.f (k : Nat) (l0 : List (S84)) (a1 : Int) (a2 : Int) : Option (Int) := scan_winding.l0 k a1 a2 0 l0 (l0.length : Int) 0
theorem scan_winding.mono_l : ∀ k, (∀ y0 y1 y2 y3 y4 y5, LeO (scan_winding.l0 k y0 y1 y2 y3 y4 y5) (scan_winding.l0 (k + 1) y0 y1 y2 y3 y4 y5))
  | 0 => fun _ _ _ _ _ _ r h => by simp [scan_winding.l0] at h
  | k + 1 => by
    have ih0 := scan_winding.mono_l k
    · intro y0 y1 y2 y3 y4 y5
      unfold scan_winding.l0
      repeat' first
      | (with_reducible exact ih0 _ _ _ _ _ _)
      | (with_reducible exact LeO.refl _)
      | (with_reducible exact LeO.none _)
      | (with_reducible refine LeO.ite ?_ ?_)
      | (with_reducible refine LeO.bind ?_ (fun _ => ?_))
      | exact ih0 _ _ _ _ _ _
      | exact LeO.none _
      | refine LeO.ite ?_ ?_
      | refine LeO.bind ?_ (fun _ => ?_)
theorem scan_winding.mono : ∀ a0 a1 a2 k, LeO (scan_winding.f k a0 a1 a2) (scan_winding.f (k + 1) a0 a1 a2) := by
  intro a0 a1 a2 k
  have ih0 := scan_winding.mono_l k
  unfold scan_winding.f
  repeat' first
      | (with_reducible exact ih0 _ _ _ _ _ _)
      | (with_reducible exact LeO.refl _)
      | (with_reducible exact LeO.none _)
      | (with_reducible refine LeO.ite ?_ ?_)
      | (with_reducible refine LeO.bind ?_ (fun _ => ?_))
      | exact ih0 _ _ _ _ _ _
      | exact LeO.none _
      | refine LeO.ite ?_ ?_
      | refine LeO.bind ?_ (fun _ => ?_)
set_option maxHeartbeats 8000000 in
set_option maxRecDepth 100000 in
theorem scan_winding.calls (k : Nat) (A0 : Option Addr) (c0 : Nat) (l0 : List (S84)) (a1 : Int) (a2 : Int) (r : Int) (w : World) (hr0 : Kd.C k84 w A0 l0.length l0) (hc0 : l0.length ≤ c0) (h : scan_winding.f k l0 a1 a2 = some r) :
    Calls Tryd.prog 32 #[.slice A0 l0.length c0, .int .i64 a1, .int .i64 a2] w fun e w' => e = .returned (.int .i64 r) ∧ Below w.heap.size w w' := by
  have hu84 := Tryd.underlying84
  have HR0 := Aside0.mk hr0
  have HC0 := Aside0.mk hc0
  clear hr0 hc0
  have HB := Aside0.mk (Below.refl w.heap.size w)
  have H : (scan_winding.l0 k a1 a2 0 l0 (l0.length : Int) 0) = some r := h
  clear h
  have H' := Aside0.mk H
  clear H
  go_enter Tryd.func32, Tryd.ntmps32
  go_wp2
  go_loopg [6, 11] k (fun kq v6 v11 w' => ∃ (x6_1 : Int) (x11_1 : Int), v6 = .int .i64 x6_1 ∧ v11 = .int .i64 x11_1 ∧ Aside0 (scan_winding.l0 kq a1 a2 x6_1 l0 (l0.length : Int) x11_1 = some r) ∧ Aside0 (kq ≤ k) ∧ Aside0 (Below w.heap.size w w'))
  case atStart => exact ⟨(0), (0), (by first | rfl | (simp; done) | (simp [*]; done)), (by first | rfl | (simp; done) | (simp [*]; done)), H', ⟨Nat.le_refl _⟩, ⟨by repeat (first | (with_reducible first | exact HB.out | apply below_alloc | apply pw_below_drewN | apply below_drew1) | exact HB.out)⟩⟩
  case round =>
    clear H'
    try clear p2
    try clear c3
    obtain ⟨x6_1, x11_1, rfl, rfl, HA, HK1, HB⟩ := hrel
    cases gk with
    | zero => exact absurd HA.out (by simp [scan_winding.l0])
    | succ k1 =>
      have H := HA.out
      clear HA
      simp only [scan_winding.l0] at H
      by_cases c4 : x11_1 < (l0.length : Int)
      · rw [if_pos c4] at H
        have c4b0 : decide (x11_1 < (l0.length : Int)) = true := decide_eq_true c4
        clear c4
        by_cases c5 : 0 ≤ x11_1
        · rw [if_pos c5] at H
          have c5b0 : decide (0 ≤ x11_1) = true := decide_eq_true c5
          clear c5
          by_cases c6 : x11_1 < (l0.length : Int)
          · rw [if_pos c6] at H
            have c6b0 : decide (x11_1 < (l0.length : Int)) = true := decide_eq_true c6
            clear c6
            replace H := Option.bind_eq_some_iff.mp H
            obtain ⟨t105, A70, H⟩ := H
            replace H : (scan_winding.l0 k1 a1 a2 (wrap64 (x6_1 + t105)) l0 (l0.length : Int) (wrap64 (x11_1 + 1))) = some r := H
            have A7 := Aside0.mk A70
            clear A70
            have H' := Aside0.mk H
            clear H
            have p103 : 0 ≤ (x11_1 : Int) := of_decide_eq_true (by first | (with_reducible assumption) | assumption)
            have q103 : x11_1 < (l0.length : Int) := of_decide_eq_true (by first | (with_reducible assumption) | assumption)
            obtain ⟨ad103, e103, hx103_0, hx103_1, hx103_2, hx103_3, hx103_4, hx103_5, hx103_6⟩ := at_T84 HR0.out x11_1 p103 q103
            cases e103
            replace hx103_0 := (HB.out.cell (World.block_lt_of_cell? w _ hx103_0)).trans hx103_0
            replace hx103_1 := (HB.out.cell (World.block_lt_of_cell? w _ hx103_1)).trans hx103_1
            replace hx103_2 := (HB.out.cell (World.block_lt_of_cell? w _ hx103_2)).trans hx103_2
            replace hx103_3 := (HB.out.cell (World.block_lt_of_cell? w _ hx103_3)).trans hx103_3
            replace hx103_4 := (HB.out.cell (World.block_lt_of_cell? w _ hx103_4)).trans hx103_4
            replace hx103_5 := (HB.out.cell (World.block_lt_of_cell? w _ hx103_5)).trans hx103_5
            replace hx103_6 := (HB.out.cell (World.block_lt_of_cell? w _ hx103_6)).trans hx103_6
            replace p103 := eq_true p103
            replace q103 := eq_true q103
            go_wp2_with (first | ((with_reducible refine gate_dst (N := 8) rfl ?_); refine box_event ?hg (N := 8) ?hd (cs := #[.int .i64 0, .int .i64 0, .int .i64 0, .int .i64 0, .int .i64 0, .int .i64 0, .bool false]) (t := 84) ?hr ?_; (case hd => rfl); (case hg => rfl); (case hr => first | (go_simp; done) | (go_simp; rfl)); intro gb104 hg w8 hbox hb; have n0_ := Aside0.mk (below_step (by repeat (first | (with_reducible first | exact HB.out | apply below_alloc | apply pw_below_drewN | apply below_drew1) | exact HB.out)) hb); have n1_ := Aside0.mk (hbox); have n2_ := Aside0.mk ((by rw [hg]; exact (below_size (by repeat (first | (with_reducible first | exact HB.out | apply below_alloc | apply pw_below_drewN | apply below_drew1) | exact HB.out))) : w.heap.size ≤ gb104)); have n3_ := Aside0.mk ((by rw [hg]; exact (below_size (by repeat (first | (with_reducible first | exact HB.out | apply below_alloc | apply pw_below_drewN | apply below_drew1) | exact HB.out))) : w.heap.size ≤ gb104)); clear HB; have HB := n0_; have BK104 := n1_; have GW104 := n2_; have GE104 := n3_; clear n0_ n1_ n2_ n3_; clear hb hbox hg; have hcz9_0 : w8.cell? ⟨gb104, 0, none⟩ = some (.int .i64 0) := (blk_cell BK104.out 0).trans rfl; have hcz9_1 : w8.cell? ⟨gb104, 1, none⟩ = some (.int .i64 0) := (blk_cell BK104.out 1).trans rfl; have hcz9_2 : w8.cell? ⟨gb104, 2, none⟩ = some (.int .i64 0) := (blk_cell BK104.out 2).trans rfl; have hcz9_3 : w8.cell? ⟨gb104, 3, none⟩ = some (.int .i64 0) := (blk_cell BK104.out 3).trans rfl; have hcz9_4 : w8.cell? ⟨gb104, 4, none⟩ = some (.int .i64 0) := (blk_cell BK104.out 4).trans rfl; have hcz9_5 : w8.cell? ⟨gb104, 5, none⟩ = some (.int .i64 0) := (blk_cell BK104.out 5).trans rfl; have hcz9_6 : w8.cell? ⟨gb104, 6, none⟩ = some (.bool false) := (blk_cell BK104.out 6).trans rfl; have hfz9_0 := blk_frozen BK104.out 0; have hfz9_1 := blk_frozen BK104.out 1; have hfz9_2 := blk_frozen BK104.out 2; have hfz9_3 := blk_frozen BK104.out 3; have hfz9_4 := blk_frozen BK104.out 4; have hfz9_5 := blk_frozen BK104.out 5; have hfz9_6 := blk_frozen BK104.out 6) | ((with_reducible refine gate_callee (f := 50) rfl ?_); refine goesL_ (some 21) rfl rfl Tryd.func50 (by kernel_rfl) rfl #[.agg #[.int .i64 ((rd_T84 l0 x11_1).f0), .int .i64 ((rd_T84 l0 x11_1).f1), .int .i64 ((rd_T84 l0 x11_1).f2), .int .i64 ((rd_T84 l0 x11_1).f3), .int .i64 ((rd_T84 l0 x11_1).f4), .int .i64 ((rd_T84 l0 x11_1).f5), .bool ((rd_T84 l0 x11_1).f6)], .int .i64 (wrap64 (2 * a1)), .int .i64 (wrap64 (2 * a2))] rfl (by (try simp only [List.map_toArray, List.map_cons, List.map_nil]); first | done | rfl | (simp only [List.length_drop, List.length_take]; rfl)) ?_; (with_reducible refine (scan_piece_counts.calls ((rd_T84 l0 x11_1).f0) ((rd_T84 l0 x11_1).f1) ((rd_T84 l0 x11_1).f2) ((rd_T84 l0 x11_1).f3) ((rd_T84 l0 x11_1).f4) ((rd_T84 l0 x11_1).f5) ((rd_T84 l0 x11_1).f6) (wrap64 (2 * a1)) (wrap64 (2 * a2)) t105 _ A7.out).mono ?_); rintro e w10 ⟨rfl, hb⟩; refine ⟨_, rfl, ?_⟩; have n0_ := Aside0.mk (blk_below (g := gb104) (o := .cells #[.int .i64 ((rd_T84 l0 x11_1).f0), .int .i64 ((rd_T84 l0 x11_1).f1), .int .i64 ((rd_T84 l0 x11_1).f2), .int .i64 ((rd_T84 l0 x11_1).f3), .int .i64 ((rd_T84 l0 x11_1).f4), .int .i64 ((rd_T84 l0 x11_1).f5), .bool ((rd_T84 l0 x11_1).f6)] 84 (0, 0)) (by (with_reducible repeat (first | refine blk_drewN ?_ _ | refine blk_drew ?_ | refine blk_alloc ?_ _)); refine blk_put (cs := #[.int .i64 ((rd_T84 l0 x11_1).f0), .int .i64 ((rd_T84 l0 x11_1).f1), .int .i64 ((rd_T84 l0 x11_1).f2), .int .i64 ((rd_T84 l0 x11_1).f3), .int .i64 ((rd_T84 l0 x11_1).f4), .int .i64 ((rd_T84 l0 x11_1).f5), .bool false]) ?_ 6 _ rfl; (with_reducible repeat (first | refine blk_drewN ?_ _ | refine blk_drew ?_ | refine blk_alloc ?_ _)); refine blk_put (cs := #[.int .i64 ((rd_T84 l0 x11_1).f0), .int .i64 ((rd_T84 l0 x11_1).f1), .int .i64 ((rd_T84 l0 x11_1).f2), .int .i64 ((rd_T84 l0 x11_1).f3), .int .i64 ((rd_T84 l0 x11_1).f4), .int .i64 0, .bool false]) ?_ 5 _ rfl; (with_reducible repeat (first | refine blk_drewN ?_ _ | refine blk_drew ?_ | refine blk_alloc ?_ _)); refine blk_put (cs := #[.int .i64 ((rd_T84 l0 x11_1).f0), .int .i64 ((rd_T84 l0 x11_1).f1), .int .i64 ((rd_T84 l0 x11_1).f2), .int .i64 ((rd_T84 l0 x11_1).f3), .int .i64 0, .int .i64 0, .bool false]) ?_ 4 _ rfl; (with_reducible repeat (first | refine blk_drewN ?_ _ | refine blk_drew ?_ | refine blk_alloc ?_ _)); refine blk_put (cs := #[.int .i64 ((rd_T84 l0 x11_1).f0), .int .i64 ((rd_T84 l0 x11_1).f1), .int .i64 ((rd_T84 l0 x11_1).f2), .int .i64 0, .int .i64 0, .int .i64 0, .bool false]) ?_ 3 _ rfl; (with_reducible repeat (first | refine blk_drewN ?_ _ | refine blk_drew ?_ | refine blk_alloc ?_ _)); refine blk_put (cs := #[.int .i64 ((rd_T84 l0 x11_1).f0), .int .i64 ((rd_T84 l0 x11_1).f1), .int .i64 0, .int .i64 0, .int .i64 0, .int .i64 0, .bool false]) ?_ 2 _ rfl; (with_reducible repeat (first | refine blk_drewN ?_ _ | refine blk_drew ?_ | refine blk_alloc ?_ _)); refine blk_put (cs := #[.int .i64 ((rd_T84 l0 x11_1).f0), .int .i64 0, .int .i64 0, .int .i64 0, .int .i64 0, .int .i64 0, .bool false]) ?_ 1 _ rfl; (with_reducible repeat (first | refine blk_drewN ?_ _ | refine blk_drew ?_ | refine blk_alloc ?_ _)); refine blk_put (cs := #[.int .i64 0, .int .i64 0, .int .i64 0, .int .i64 0, .int .i64 0, .int .i64 0, .bool false]) ?_ 0 _ rfl; (with_reducible repeat (first | refine blk_drewN ?_ _ | refine blk_drew ?_ | refine blk_alloc ?_ _)); exact BK104.out) hb); have n1_ := Aside0.mk (below_step (by repeat (first | (with_reducible first | exact HB.out | apply below_alloc | apply pw_below_drewN | apply below_drew1 | refine below_set ?_ GE104.out) | exact HB.out)) hb); clear BK104; clear HB; have BK104 := n0_; have HB := n1_; clear n0_ n1_; (try clear hb); (try clear hb2); (try clear hk); (try clear hi)))
            go_roundg k1
            case measure => have := HK1.out; omega
            case rel => exact ⟨(wrap64 (x6_1 + t105)), (wrap64 (x11_1 + 1)), (by first | rfl | (simp; done) | (simp [*]; done)), (by first | rfl | (simp; done) | (simp [*]; done)), H', ⟨by have := HK1.out; omega⟩, ⟨by repeat (first | (with_reducible first | exact HB.out | apply below_alloc | apply pw_below_drewN | apply below_drew1 | refine below_set ?_ GE104.out) | exact HB.out)⟩⟩
          · rw [if_neg c6] at H
            exact absurd H (by simp)
        · rw [if_neg c5] at H
          exact absurd H (by simp)
      · rw [if_neg c4] at H
        have c4b0 : decide (x11_1 < (l0.length : Int)) = false := decide_eq_false c4
        clear c4
        obtain rfl := Option.some.inj H
        go_wp2
        go_ret
        exact ⟨by first | rfl | (simp [errW_none, errW_some] <;> rfl) | (simp [*, errW_none, errW_some] <;> rfl), by repeat (first | (with_reducible first | exact HB.out | apply below_alloc | apply pw_below_drewN | apply below_drew1) | exact HB.out)⟩
end Go.Proofs.YtleljodcdbhifaaDoor.Hy
