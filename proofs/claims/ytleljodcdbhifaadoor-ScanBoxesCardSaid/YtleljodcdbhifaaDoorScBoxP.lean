/- A rectangle, and its curves included in it. -/
import Derived.Test.YtleljodcdbhifaaDoorBa4
set_option linter.unusedVariables false
set_option linter.unusedSimpArgs false
namespace Go.Proofs.YtleljodcdbhifaaDoor
open Go.RowKit Go.Proofs.YtleljodcdbhifaaDoorW.PrintWords Go.Proofs.YtleljodcdbhifaaDoorW.PrintLast Go.Proofs.YtleljodcdbhifaaDoorW.PrintMore Hy
instance (d p q : Int) : Decidable (NN d p q) := inferInstanceAs (Decidable (_ ∨ _))
theorem wcon4 (p q r s : S30) (x y : Int) : wcon [p, q, r, s] x y = Lf x y p q + Lf x y q r + Lf x y r s + Lf x y s p + (Cf x y s p q + Cf x y p q r + Cf x y q r s + Cf x y r s p) := by
  simp [wcon, sumN, ptAt]
def boxL (x0 y0 x1 y1 : Int) : List S30 := [⟨x0, y0, true⟩, ⟨x1, y0, true⟩, ⟨x1, y1, true⟩, ⟨x0, y1, true⟩]
def rndL (x0 y0 x1 y1 : Int) : List S30 := [⟨x0, y0, true⟩, ⟨x1, y0, false⟩, ⟨x1, y1, true⟩, ⟨x0, y1, false⟩]
def InB (x0 y0 x1 y1 x y : Int) : Prop := x0 ≤ x ∧ x < x1 ∧ y0 ≤ y ∧ y < y1
theorem flat_line (x0 x1 y0 x y : Int) : cntL (2 * x0) (2 * y0) (2 * x1) (2 * y0) (2 * x) (2 * y) = 0 := by
  unfold cntL
  rw [if_pos (by omega)]
theorem up_line (x0 y0 y1 x y : Int) (h : y0 ≤ y1) : cntL (2 * x0) (2 * y0) (2 * x0) (2 * y1) (2 * x) (2 * y) = if y0 ≤ y ∧ y < y1 ∧ x0 ≤ x then 1 else 0 := by
  unfold cntL
  by_cases h1 : 2 * y < min (2 * y0) (2 * y1) ∨ max (2 * y0) (2 * y1) ≤ 2 * y
  · rw [if_pos h1, if_neg (by omega)]
  · rw [if_neg h1, sg_pos (by omega), Int.one_mul, Int.sub_self, Int.zero_mul]
    by_cases h2 : x0 ≤ x
    · rw [if_pos (show y0 ≤ y ∧ y < y1 ∧ x0 ≤ x by omega), if_neg]
      have := Int.mul_nonneg (show 0 ≤ 2 * x - 2 * x0 by omega) (show 0 ≤ 2 * y1 - 2 * y0 by omega)
      omega
    · rw [if_neg (show ¬ (y0 ≤ y ∧ y < y1 ∧ x0 ≤ x) by omega), if_pos]
      have := Int.mul_neg_of_neg_of_pos (show 2 * x - 2 * x0 < 0 by omega) (show 0 < 2 * y1 - 2 * y0 by omega)
      omega
theorem box_wind (x0 y0 x1 y1 x y : Int) (hx : x0 ≤ x1) (hy : y0 ≤ y1) : wcon (boxL x0 y0 x1 y1) x y = if x0 ≤ x ∧ x < x1 ∧ y0 ≤ y ∧ y < y1 then -1 else 0 := by
  unfold boxL
  rw [wcon4]
  simp only [Lf, Cf, Bool.and_self, if_true]
  rw [flat_line, flat_line, up_line x1 y0 y1 x y hy, cntL_rev, up_line x0 y0 y1 x y hy]
  (repeat' split) <;> omega
theorem rt_one {d : Int} (h : 0 < d) : rt 0 1 d = 1 ∧ rt 0 (-1) d = -1 := by
  unfold rt
  have : ¬ d = 0 := by omega
  simp [this, sg_zero, sg_pos (show (0 : Int) < 1 by decide), sg_neg (show (-1 : Int) < 0 by decide)]
/-- the two curves, by the sides: v, H the heights, u, W the widths -/
theorem curve_up (W H u v : Int) (hH : 0 < H) : cntQ (2 * H) 0 (-(2 * v)) (-(2 * W)) (4 * W) (-(2 * u)) = if 0 ≤ v ∧ v < H ∧ NN (16 * (H * v)) (16 * (H * (H * u + W * v))) (-(8 * (H * W))) then 1 else 0 := by
  unfold cntQ
  have ed : (0 : Int) * 0 - 4 * (2 * H) * (-(2 * v)) = 16 * (H * v) := by grind
  have eP : 2 * (2 * H) * (2 * H * -(2 * u) - -(2 * W) * -(2 * v)) - 0 * (2 * H * (4 * W) - -(2 * W) * 0) = -(16 * (H * (H * u + W * v))) := by grind
  have eK : 2 * H * (4 * W) - -(2 * W) * 0 = 8 * (H * W) := by grind
  rw [ed, eP, eK, sg_pos (show 0 < 2 * H by omega), Int.one_mul, Int.one_mul, Int.one_mul, Int.one_mul, Int.neg_zero]
  rcases Int.lt_or_le v 0 with hv | hv
  · have := Int.mul_neg_of_pos_of_neg hH hv
    rw [if_pos (.inl (by omega)), if_neg (by omega)]
  · have hd : 0 ≤ 16 * (H * v) := by have := Int.mul_nonneg (Int.le_of_lt hH) hv; omega
    rw [if_neg (by omega)]
    have h2 : ¬ (0 < rt 0 (-1) (16 * (H * v)) ∧ rt (0 - 2 * (2 * H)) (-1) (16 * (H * v)) ≤ 0 ∧ rt (-(16 * (H * (H * u + W * v)))) (-(8 * (H * W))) (16 * (H * v)) ≤ 0) := by
      rintro ⟨h, _⟩
      rcases Int.lt_or_le 0 (16 * (H * v)) with h0 | h0
      · rw [(rt_one h0).2] at h; omega
      · rw [show 16 * (H * v) = 0 by omega, rt_zero_d, sg_zero] at h; omega
    rw [if_neg h2, Int.sub_zero]
    have h1 : 0 ≤ rt 0 1 (16 * (H * v)) := by
      rcases Int.lt_or_le 0 (16 * (H * v)) with h0 | h0
      · rw [(rt_one h0).1]; decide
      · rw [show 16 * (H * v) = 0 by omega, rt_zero_d, sg_zero]; decide
    refine ite_iff ?_
    have e3 : rt (0 - 2 * (2 * H)) 1 (16 * (H * v)) < 0 ↔ v < H := by
      rw [rt_lt hd]
      have e4 : (0 - 2 * (2 * H)) * (0 - 2 * (2 * H)) = 16 * (H * H) := by grind
      unfold NN
      rw [e4, Int.one_mul, Int.one_mul]
      constructor
      · intro h
        rcases Int.lt_or_le v H with h3 | h3
        · exact h3
        · exfalso
          refine h (.inr ⟨by decide, ?_⟩)
          have := Int.mul_le_mul_of_nonneg_left h3 (Int.le_of_lt hH)
          omega
      · intro h
        have := Int.mul_lt_mul_of_pos_left h hH
        omega
    rw [e3, rt_le hd, Int.neg_neg]
    exact ⟨fun h => ⟨hv, h.2⟩, fun h => ⟨h1, h.2⟩⟩
theorem curve_down (W H u v : Int) (hH : 0 < H) : cntQ (-(2 * H)) 0 (2 * v) (2 * W) (-(4 * W)) (2 * u) = -(if 0 < v ∧ v ≤ H ∧ NN (16 * (H * v)) (-(16 * (H * (H * u + W * v)))) (8 * (H * W)) then 1 else 0) := by
  unfold cntQ
  have ed : (0 : Int) * 0 - 4 * (-(2 * H)) * (2 * v) = 16 * (H * v) := by grind
  have eP : 2 * (-(2 * H)) * (-(2 * H) * (2 * u) - 2 * W * (2 * v)) - 0 * (-(2 * H) * -(4 * W) - 2 * W * 0) = 16 * (H * (H * u + W * v)) := by grind
  have eK : -(2 * H) * -(4 * W) - 2 * W * 0 = 8 * (H * W) := by grind
  rw [ed, eP, eK, sg_neg (show -(2 * H) < 0 by omega), Int.neg_zero]
  rcases Int.lt_or_le 0 v with hv | hv
  · have hd : 0 < 16 * (H * v) := by have := Int.mul_pos hH hv; omega
    rw [if_neg (by omega), if_neg (by rw [(rt_one hd).1]; omega), Int.zero_sub]
    congr 1
    refine ite_iff ?_
    have e3 : -1 * rt (0 - 2 * -(2 * H)) (-1) (16 * (H * v)) ≤ 0 ↔ v ≤ H := by
      have e5 : -1 * rt (0 - 2 * -(2 * H)) (-1) (16 * (H * v)) ≤ 0 ↔ 0 ≤ rt (0 - 2 * -(2 * H)) (-1) (16 * (H * v)) := by omega
      rw [e5, rt_nn (Int.le_of_lt hd)]
      have e4 : (0 - 2 * -(2 * H)) * (0 - 2 * -(2 * H)) = 16 * (H * H) := by grind
      unfold NN
      rw [e4, show (-1 : Int) * -1 = 1 by decide, Int.one_mul]
      constructor
      · intro h
        rcases Int.lt_or_le H v with h3 | h3
        · exfalso
          have := Int.mul_lt_mul_of_pos_left h3 hH
          omega
        · exact h3
      · intro h
        left
        have := Int.mul_le_mul_of_nonneg_left h (Int.le_of_lt hH)
        omega
    rw [e3, (rt_one hd).2, rt_le (Int.le_of_lt hd), Int.neg_neg]
    constructor
    · rintro ⟨_, h2, h3⟩; exact ⟨hv, h2, h3⟩
    · rintro ⟨_, h2, h3⟩; exact ⟨by decide, h2, h3⟩
  · have h0 : 16 * (H * v) ≤ 0 := by
      have := Int.mul_nonneg (Int.le_of_lt hH) (show 0 ≤ -v by omega)
      rw [Int.mul_neg] at this
      omega
    rw [if_pos (by omega), if_neg (by omega)]; rfl
/-- where the one counts, the other does -/
theorem curves_meet (W H u v : Int) (hH : 0 < H) (hu : 0 ≤ u ∧ u < W) (hv : 0 ≤ v ∧ v < H) (h : NN (16 * (H * v)) (16 * (H * (H * u + W * v))) (-(8 * (H * W)))) : NN (16 * (H * (H - v))) (-(16 * (H * (H * (W - u) + W * (H - v))))) (8 * (H * W)) := by
  have hW : 0 < W := by omega
  have hHW : 0 < H * W := Int.mul_pos hH hW
  obtain ⟨S, hS⟩ : ∃ S, S = H * u + W * v := ⟨_, rfl⟩
  have hS0 : 0 ≤ S := by rw [hS]; have := Int.mul_nonneg (Int.le_of_lt hH) hu.1; have := Int.mul_nonneg (Int.le_of_lt hW) hv.1; omega
  have e1 : H * (W - u) + W * (H - v) = 2 * (H * W) - S := by rw [hS]; grind
  rw [e1]
  rw [← hS] at h
  have hk : 4 * (W * W * (H * v)) ≤ S * S := by
    rcases h with ⟨_, h2⟩ | ⟨h1, _⟩
    · have e2 : -(8 * (H * W)) * -(8 * (H * W)) * (16 * (H * v)) = (256 * (H * H)) * (4 * (W * W * (H * v))) := by grind
      have e3 : 16 * (H * S) * (16 * (H * S)) = (256 * (H * H)) * (S * S) := by grind
      rw [e2, e3] at h2
      exact Int.le_of_mul_le_mul_left h2 (by have := Int.mul_pos hH hH; omega)
    · omega
  rcases Int.lt_or_le (2 * (H * W)) S with h3 | h3
  · have hp : 0 ≤ -(16 * (H * (2 * (H * W) - S))) := by
      have := Int.mul_nonneg (Int.le_of_lt hH) (show 0 ≤ S - 2 * (H * W) by omega)
      have e : H * (2 * (H * W) - S) = -(H * (S - 2 * (H * W))) := by grind
      omega
    rcases Int.le_total (8 * (H * W) * (8 * (H * W)) * (16 * (H * (H - v)))) (-(16 * (H * (2 * (H * W) - S))) * -(16 * (H * (2 * (H * W) - S)))) with h | h
    · exact .inl ⟨hp, h⟩
    · exact .inr ⟨by omega, h⟩
  · right
    refine ⟨by omega, ?_⟩
    have e2 : -(16 * (H * (2 * (H * W) - S))) * -(16 * (H * (2 * (H * W) - S))) = (256 * (H * H)) * ((2 * (H * W) - S) * (2 * (H * W) - S)) := by grind
    have e3 : 8 * (H * W) * (8 * (H * W)) * (16 * (H * (H - v))) = (256 * (H * H)) * (4 * (W * W * (H * (H - v)))) := by grind
    rw [e2, e3]
    refine Int.mul_le_mul_of_nonneg_left ?_ (by have := Int.mul_pos hH hH; omega)
    have e4 : 4 * (W * W * (H * (H - v))) = 4 * ((H * W) * (H * W)) - 4 * (W * W * (H * v)) := by grind
    have e5 : (2 * (H * W) - S) * (2 * (H * W) - S) = 4 * ((H * W) * (H * W)) + S * S - 2 * ((2 * (H * W)) * S) := by grind
    have e6 : S * S ≤ (2 * (H * W)) * S := Int.mul_le_mul_of_nonneg_right h3 hS0
    omega
theorem rnd_wind (x0 y0 x1 y1 x y : Int) (hH : y0 < y1) : wcon (rndL x0 y0 x1 y1) x y =
    (if 0 ≤ y - y0 ∧ y - y0 < y1 - y0 ∧ NN (16 * ((y1 - y0) * (y - y0))) (16 * ((y1 - y0) * ((y1 - y0) * (x - x0) + (x1 - x0) * (y - y0)))) (-(8 * ((y1 - y0) * (x1 - x0)))) then 1 else 0)
    - (if 0 < y1 - y ∧ y1 - y ≤ y1 - y0 ∧ NN (16 * ((y1 - y0) * (y1 - y))) (-(16 * ((y1 - y0) * ((y1 - y0) * (x1 - x) + (x1 - x0) * (y1 - y))))) (8 * ((y1 - y0) * (x1 - x0))) then 1 else 0) := by
  have h1 := curve_up (x1 - x0) (y1 - y0) (x - x0) (y - y0) (by omega)
  have h2 := curve_down (x1 - x0) (y1 - y0) (x1 - x) (y1 - y) (by omega)
  unfold rndL
  rw [wcon4]
  simp only [Lf, Cf, Ex, Ey, Bool.and_false, Bool.false_and, Bool.false_eq_true, if_false, if_true]
  unfold cntC
  rw [if_neg (by omega), if_neg (by omega)]
  rw [show 2 * y0 - 2 * (2 * y0) + 2 * y1 = 2 * (y1 - y0) by omega, show 2 * (2 * y0 - 2 * y0) = 0 by omega, show 2 * y0 - 2 * y = -(2 * (y - y0)) by omega, show 2 * x0 - 2 * (2 * x1) + 2 * x1 = -(2 * (x1 - x0)) by omega, show 2 * (2 * x1 - 2 * x0) = 4 * (x1 - x0) by omega, show 2 * x0 - 2 * x = -(2 * (x - x0)) by omega, h1]
  rw [show 2 * y1 - 2 * (2 * y1) + 2 * y0 = -(2 * (y1 - y0)) by omega, show 2 * (2 * y1 - 2 * y1) = 0 by omega, show 2 * y1 - 2 * y = 2 * (y1 - y) by omega, show 2 * x1 - 2 * (2 * x0) + 2 * x0 = 2 * (x1 - x0) by omega, show 2 * (2 * x0 - 2 * x1) = -(4 * (x1 - x0)) by omega, show 2 * x1 - 2 * x = 2 * (x1 - x) by omega, h2]
  omega
theorem rnd_flat (x0 x1 y0 x y : Int) : wcon (rndL x0 y0 x1 y0) x y = 0 := by
  unfold rndL
  rw [wcon4]
  simp only [Lf, Cf, Ex, Ey, Bool.and_false, Bool.false_and, Bool.false_eq_true, if_false, if_true]
  unfold cntC
  rw [if_pos (by omega), if_pos (.inl (by omega)), if_pos (by omega), if_pos (.inl (by omega))]
  rfl
theorem rnd_out (x0 y0 x1 y1 x y : Int) (hx : x0 ≤ x1) (hy : y0 ≤ y1) (h : ¬ (x0 ≤ x ∧ x < x1 ∧ y0 ≤ y ∧ y < y1)) : wcon (rndL x0 y0 x1 y1) x y = 0 := by
  have mem : ∀ p ∈ rndL x0 y0 x1 y1, (p.f0 = x0 ∨ p.f0 = x1) ∧ (p.f1 = y0 ∨ p.f1 = y1) := by
    intro p hp
    unfold rndL at hp
    simp at hp
    rcases hp with rfl | rfl | rfl | rfl <;> simp
  rcases Int.lt_or_le x x0 with c | c
  · exact wcon_left _ x y fun p hp => by have := mem p hp; omega
  rcases Int.lt_or_le x x1 with c2 | c2
  · rcases Int.lt_or_le y y0 with c3 | c3
    · exact wcon_off _ x y (.inl fun p hp => by have := mem p hp; omega)
    · rcases Int.lt_or_le y0 y1 with c4 | c4
      · rw [rnd_wind x0 y0 x1 y1 x y c4, if_neg (by omega), if_neg (by omega)]; rfl
      · have e : y1 = y0 := by omega
        subst e
        exact rnd_flat x0 x1 y1 x y
  · exact wcon_right _ x y fun p hp => by have := mem p hp; omega
theorem rnd_in (x0 y0 x1 y1 x y : Int) (h : x0 ≤ x ∧ x < x1 ∧ y0 ≤ y ∧ y < y1) : wcon (rndL x0 y0 x1 y1) x y ≤ 0 := by
  rw [rnd_wind x0 y0 x1 y1 x y (by omega)]
  by_cases c : 0 ≤ y - y0 ∧ y - y0 < y1 - y0 ∧ NN (16 * ((y1 - y0) * (y - y0))) (16 * ((y1 - y0) * ((y1 - y0) * (x - x0) + (x1 - x0) * (y - y0)))) (-(8 * ((y1 - y0) * (x1 - x0))))
  · have hm := curves_meet (x1 - x0) (y1 - y0) (x - x0) (y - y0) (by omega) (by omega) (by omega) c.2.2
    rw [show y1 - y0 - (y - y0) = y1 - y by omega, show x1 - x0 - (x - x0) = x1 - x by omega] at hm
    rw [if_pos c, if_pos ⟨by omega, by omega, hm⟩]
    decide
  · rw [if_neg c]
    split <;> omega
theorem wind_one (c : List S30) (x y : Int) : wind (allP [c]) x y = wcon c x y := by
  rw [wind_all]
  simp
theorem wind_two (c d : List S30) (x y : Int) : wind (allP [c, d]) x y = wcon c x y + wcon d x y := by
  rw [wind_all]
  simp
theorem box_ne (x0 y0 x1 y1 x y : Int) (hx : x0 ≤ x1) (hy : y0 ≤ y1) : wind (allP [boxL x0 y0 x1 y1]) x y ≠ 0 ↔ (x0 ≤ x ∧ x < x1 ∧ y0 ≤ y ∧ y < y1) := by
  rw [wind_one, box_wind x0 y0 x1 y1 x y hx hy]
  split <;> omega
theorem both_ne (x0 y0 x1 y1 x y : Int) (hx : x0 ≤ x1) (hy : y0 ≤ y1) : wind (allP [boxL x0 y0 x1 y1, rndL x0 y0 x1 y1]) x y ≠ 0 ↔ wind (allP [boxL x0 y0 x1 y1]) x y ≠ 0 := by
  rw [box_ne x0 y0 x1 y1 x y hx hy, wind_two, box_wind x0 y0 x1 y1 x y hx hy]
  by_cases h : x0 ≤ x ∧ x < x1 ∧ y0 ≤ y ∧ y < y1
  · have := rnd_in x0 y0 x1 y1 x y h
    rw [if_pos h]
    omega
  · rw [if_neg h, rnd_out x0 y0 x1 y1 x y hx hy h]
    omega
theorem fill_both (x0 y0 x1 y1 : Int) (hx : x0 ≤ x1) (hy : y0 ≤ y1) : fillB [boxL x0 y0 x1 y1, rndL x0 y0 x1 y1] = fillB [boxL x0 y0 x1 y1] := by
  refine fillB_cov (fun p hp => ?_) (Cov.of_sub fun p hp => ?_) fun x y => both_ne x0 y0 x1 y1 x y hx hy
  · have hp2 : p ∈ boxL x0 y0 x1 y1 ∨ p ∈ rndL x0 y0 x1 y1 := by simpa [ptsOf] using hp
    have m : ∀ q, q ∈ boxL x0 y0 x1 y1 → q ∈ ptsOf [boxL x0 y0 x1 y1] := fun q hq => by simpa [ptsOf] using hq
    have key : ∃ q ∈ ptsOf [boxL x0 y0 x1 y1], q.f0 = p.f0 ∧ q.f1 = p.f1 := by
      rcases hp2 with h | h
      · exact ⟨p, m p h, rfl, rfl⟩
      · unfold rndL at h
        simp at h
        rcases h with rfl | rfl | rfl | rfl
        · exact ⟨⟨x0, y0, true⟩, m _ (by simp [boxL]), rfl, rfl⟩
        · exact ⟨⟨x1, y0, true⟩, m _ (by simp [boxL]), rfl, rfl⟩
        · exact ⟨⟨x1, y1, true⟩, m _ (by simp [boxL]), rfl, rfl⟩
        · exact ⟨⟨x0, y1, true⟩, m _ (by simp [boxL]), rfl, rfl⟩
    obtain ⟨q, hq, e0, e1⟩ := key
    exact ⟨⟨q, hq, by omega⟩, ⟨q, hq, by omega⟩, ⟨q, hq, by omega⟩, ⟨q, hq, by omega⟩⟩
  · have h : p ∈ boxL x0 y0 x1 y1 := by simpa [ptsOf] using hp
    simp [ptsOf, h]
theorem fill_boxL (x0 y0 x1 y1 : Int) (hx : x0 ≤ x1) (hy : y0 ≤ y1) (h0 : -899 ≤ x0) (h1 : x1 ≤ 899) (h2 : -899 ≤ y0) (h3 : y1 ≤ 899) (x y : Int) :
    (fillB [boxL x0 y0 x1 y1]).2 = 0 ∧ getB (fillB [boxL x0 y0 x1 y1]).1 x y = decide (x0 ≤ 64 * x + 32 ∧ 64 * x + 32 < x1 ∧ y0 ≤ 64 * y + 32 ∧ 64 * y + 32 < y1) := by
  have e : ptsOf [boxL x0 y0 x1 y1] = boxL x0 y0 x1 y1 := by simp [ptsOf]
  have hn : nearL [boxL x0 y0 x1 y1] = true := nearL_pts.2 fun p hp => by
    rw [e] at hp
    unfold boxL at hp
    simp at hp
    unfold nearP near12
    rcases hp with rfl | rfl | rfl | rfl <;> (dsimp only; omega)
  have hX : X1 (ptsOf [boxL x0 y0 x1 y1]) - X0 (ptsOf [boxL x0 y0 x1 y1]) ≤ 63 := by
    rw [e]
    simp [X0, X1, boxL, minF, maxF]
    omega
  have hY : Y1 (ptsOf [boxL x0 y0 x1 y1]) - Y0 (ptsOf [boxL x0 y0 x1 y1]) ≤ 63 := by
    rw [e]
    simp [Y0, Y1, boxL, minF, maxF]
    omega
  have h := fill_pix hn hX hY x y
  refine ⟨h.1, h.2.trans ?_⟩
  exact decide_eq_decide.2 (box_ne x0 y0 x1 y1 _ _ hx hy)
end Go.Proofs.YtleljodcdbhifaaDoor
