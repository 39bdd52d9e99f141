/- ScRfP, ScRfA, ScRfL, ScRfC: merged by wip/prune.py. -/
import Derived.Deep.DeepCutAuto
import Derived.Test.YtleljodcdbhifaaDoorFi1
import Derived.Test.YtleljodcdbhifaaDoorFi4
/- The reference's pieces: they begin at the points that are On, the middles among them; what they count together is the winding of the contour. -/
set_option linter.unusedVariables false
set_option linter.unusedSimpArgs false
namespace Go.Proofs.YtleljodcdbhifaaDoor
open Go.RowKit Go.Proofs.YtleljodcdbhifaaDoorW.PrintWords Go.Proofs.YtleljodcdbhifaaDoorW.PrintLast Go.Proofs.YtleljodcdbhifaaDoorW.PrintMore Hy
/-- a point with doubled coordinates; the doubled middle of two -/
def twR (p : S30) : S30 := ⟨2 * p.f0, 2 * p.f1, p.f2⟩
def mdR (p q : S30) : S30 := ⟨p.f0 + q.f0, p.f1 + q.f1, true⟩
def blkR (p q : S30) : List S30 := if p.f2 = false ∧ q.f2 = false then [twR p, mdR p q] else [twR p]
/-- the points with the middles -/
def ptsR (c : List S30) : Nat → List S30
  | 0 => []
  | n + 1 => ptsR c n ++ blkR (ptAt c n) (ptAt c (n + 1))
def itR (a b r : S30) : List S89 := if a.f2 then (if b.f2 then [⟨a, z30, b, false⟩] else [⟨a, b, r, true⟩]) else []
def outR (l : List S30) : Nat → List S89
  | 0 => []
  | n + 1 => outR l n ++ itR (ptAt l n) (ptAt l (n + 1)) (ptAt l (n + 2))
def pcsR (c : List S30) : List S89 := outR (ptsR c c.length) (ptsR c c.length).length
/-- what a piece of the reference counts, for a doubled point -/
def cntR (s : S89) (x y : Int) : Int := if s.f3 then cntC s.f0.f0 s.f0.f1 s.f1.f0 s.f1.f1 s.f2.f0 s.f2.f1 x y else cntL s.f0.f0 s.f0.f1 s.f2.f0 s.f2.f1 x y
def windR (l : List S89) (x y : Int) : Int := (l.map fun s => cntR s x y).sum
theorem windR_nil (x y : Int) : windR [] x y = 0 := rfl
theorem windR_app (l m : List S89) (x y : Int) : windR (l ++ m) x y = windR l x y + windR m x y := by simp [windR]
theorem windR_one (s : S89) (x y : Int) : windR [s] x y = cntR s x y := by simp [windR]
theorem blkR_len (p q : S30) : (blkR p q).length = if p.f2 = false ∧ q.f2 = false then 2 else 1 := by unfold blkR; split <;> rfl
theorem ptsR_add (c : List S30) (k : Nat) : ptsR c (c.length + k) = ptsR c c.length ++ ptsR c k := by
  induction k with
  | zero => simp [ptsR]
  | succ k ih =>
    show ptsR c (c.length + k) ++ blkR (ptAt c (c.length + k)) (ptAt c (c.length + k + 1)) = ptsR c c.length ++ (ptsR c k ++ blkR (ptAt c k) (ptAt c (k + 1)))
    rw [ih, show c.length + k = k + c.length by omega, ptAt_add, show k + c.length + 1 = k + 1 + c.length by omega, ptAt_add, List.append_assoc]
theorem ptsR_le (c : List S30) : ∀ k d, ∃ t, ptsR c (k + d) = ptsR c k ++ t
  | k, 0 => ⟨[], by simp⟩
  | k, d + 1 => by
    obtain ⟨t, e⟩ := ptsR_le c k d
    exact ⟨t ++ blkR (ptAt c (k + d)) (ptAt c (k + d + 1)), by show ptsR c (k + d) ++ _ = _; rw [e, List.append_assoc]; rfl⟩
/-- the points in a circle -/
theorem ptAt_all (c : List S30) (h0 : 0 < c.length) : ∀ K j, j < (ptsR c K).length → ptAt (ptsR c c.length) j = (ptsR c K).getD j z30 := by
  intro K
  induction K using Nat.strongRecOn with
  | _ K ih =>
    intro j hj
    rcases Nat.le_total K c.length with h | h
    · obtain ⟨t, e⟩ := ptsR_le c K (c.length - K)
      rw [show K + (c.length - K) = c.length by omega] at e
      have hl : j < (ptsR c c.length).length := by rw [e, List.length_append]; omega
      rw [ptAt_lt _ hl, e]
      simp only [List.getD_eq_getElem?_getD]
      rw [List.getElem?_append_left hj]
    · obtain ⟨k, rfl⟩ := Nat.le.dest h
      rw [ptsR_add] at hj ⊢
      rw [List.length_append] at hj
      rcases Nat.lt_or_ge j (ptsR c c.length).length with h1 | h1
      · rw [ptAt_lt _ h1]
        simp only [List.getD_eq_getElem?_getD]
        rw [List.getElem?_append_left h1]
      · obtain ⟨i, rfl⟩ := Nat.le.dest h1
        rw [Nat.add_comm, ptAt_add, ih k (by omega) i (by omega)]
        simp only [List.getD_eq_getElem?_getD]
        rw [Nat.add_comm, List.getElem?_append_right h1, Nat.add_sub_cancel_left]
def posR (c : List S30) (k : Nat) : Nat := (ptsR c k).length
theorem posR_succ (c : List S30) (k : Nat) : posR c (k + 1) = posR c k + (if (ptAt c k).f2 = false ∧ (ptAt c (k + 1)).f2 = false then 2 else 1) := by
  unfold posR
  rw [ptsR, List.length_append, blkR_len]
theorem at_pos (c : List S30) (h0 : 0 < c.length) (k : Nat) : ptAt (ptsR c c.length) (posR c k) = twR (ptAt c k) := by
  have hl : posR c k < (ptsR c (k + 1)).length := by
    have := posR_succ c k
    unfold posR at this ⊢
    split at this <;> omega
  rw [ptAt_all c h0 (k + 1) _ hl, ptsR]
  simp only [List.getD_eq_getElem?_getD]
  rw [List.getElem?_append_right (by unfold posR; exact Nat.le_refl _)]
  unfold posR blkR
  rw [Nat.sub_self]
  split <;> rfl
theorem at_mid (c : List S30) (h0 : 0 < c.length) (k : Nat) (h1 : (ptAt c k).f2 = false) (h2 : (ptAt c (k + 1)).f2 = false) : ptAt (ptsR c c.length) (posR c k + 1) = mdR (ptAt c k) (ptAt c (k + 1)) := by
  have hl : posR c k + 1 < (ptsR c (k + 1)).length := by
    have := posR_succ c k
    rw [if_pos ⟨h1, h2⟩] at this
    unfold posR at this ⊢
    omega
  rw [ptAt_all c h0 (k + 1) _ hl, ptsR]
  simp only [List.getD_eq_getElem?_getD]
  rw [List.getElem?_append_right (by unfold posR; omega)]
  unfold posR blkR
  rw [if_pos ⟨h1, h2⟩, show (ptsR c k).length + 1 - (ptsR c k).length = 1 by omega]
  rfl
/-- where the curve of a point ends -/
theorem at_next (c : List S30) (h0 : 0 < c.length) (k : Nat) (h : (ptAt c k).f2 = false) : (ptAt (ptsR c c.length) (posR c k + 1)).f0 = Ex (ptAt c (k + 1)) (ptAt c k) ∧ (ptAt (ptsR c c.length) (posR c k + 1)).f1 = Ey (ptAt c (k + 1)) (ptAt c k) := by
  unfold Ex Ey
  cases h2 : (ptAt c (k + 1)).f2
  · rw [at_mid c h0 k h h2]
    simp only [mdR, Bool.false_eq_true, if_false]
    exact ⟨Int.add_comm _ _, Int.add_comm _ _⟩
  · have e : posR c k + 1 = posR c (k + 1) := by rw [posR_succ, if_neg (by rw [h2]; simp)]
    rw [e, at_pos c h0]
    exact ⟨rfl, rfl⟩
theorem step_R (c : List S30) (h0 : 0 < c.length) (x y : Int) (k : Nat) :
    windR (outR (ptsR c c.length) (posR c (k + 1))) (2 * x) (2 * y) = windR (outR (ptsR c c.length) (posR c k)) (2 * x) (2 * y) + (Lf x y (ptAt c k) (ptAt c (k + 1)) + Cf x y (ptAt c k) (ptAt c (k + 1)) (ptAt c (k + 2))) := by
  have p0 := at_pos c h0 k
  have p1 := at_pos c h0 (k + 1)
  cases h1 : (ptAt c k).f2 <;> cases h2 : (ptAt c (k + 1)).f2
  · have e : posR c (k + 1) = posR c k + 1 + 1 := by rw [posR_succ, if_pos ⟨h1, h2⟩]
    obtain ⟨n0, n1⟩ := at_next c h0 (k + 1) h2
    rw [e] at p1 n0 n1
    have pm := at_mid c h0 k h1 h2
    rw [e, outR, outR, windR_app, windR_app, p0, pm, p1]
    simp only [itR, twR, mdR, h1, h2, if_true, if_false, Bool.false_eq_true, windR_nil, windR_one, cntR, Lf, Cf, Bool.false_and, n0, n1, Ex, Ey, Int.zero_add, Int.add_zero]
  · have e : posR c (k + 1) = posR c k + 1 := by rw [posR_succ, if_neg (by rw [h2]; simp)]
    rw [e, outR, windR_app, p0]
    simp only [itR, twR, h1, h2, if_true, if_false, Bool.false_eq_true, windR_nil, Lf, Cf, Bool.false_and, Int.add_zero]
  · have e : posR c (k + 1) = posR c k + 1 := by rw [posR_succ, if_neg (by rw [h1]; simp)]
    obtain ⟨n0, n1⟩ := at_next c h0 (k + 1) h2
    rw [e] at p1 n0 n1
    rw [e, outR, windR_app, p0, p1]
    simp only [itR, twR, h1, h2, if_true, if_false, Bool.false_eq_true, windR_nil, windR_one, cntR, Lf, Cf, Bool.true_and, Bool.and_false, n0, n1, Ex, Ey, Int.zero_add, Int.add_zero]
  · have e : posR c (k + 1) = posR c k + 1 := by rw [posR_succ, if_neg (by rw [h1]; simp)]
    rw [e] at p1
    rw [e, outR, windR_app, p0, p1]
    simp only [itR, twR, h1, h2, if_true, if_false, Bool.false_eq_true, windR_nil, windR_one, cntR, Lf, Cf, Bool.true_and, Int.zero_add, Int.add_zero]
theorem wind_R (c : List S30) (x y : Int) : windR (pcsR c) (2 * x) (2 * y) = wcon c x y := by
  rcases Nat.eq_zero_or_pos c.length with h0 | h0
  · unfold pcsR wcon
    rw [h0]
    rfl
  · have h : ∀ k, windR (outR (ptsR c c.length) (posR c k)) (2 * x) (2 * y) = sumN (fun k => Lf x y (ptAt c k) (ptAt c (k + 1)) + Cf x y (ptAt c k) (ptAt c (k + 1)) (ptAt c (k + 2))) k := by
      intro k
      induction k with
      | zero => rfl
      | succ k ih => rw [step_R c h0, ih, sumN]
    show windR (outR (ptsR c c.length) (posR c c.length)) _ _ = _
    rw [h, sumN_add]
    unfold wcon
    congr 1
    have := sumN_shift1 (f := fun k => Cf x y (ptAt c (k + c.length - 1)) (ptAt c k) (ptAt c (k + 1))) (n := c.length) (by
      show Cf x y (ptAt c (c.length + c.length - 1)) (ptAt c c.length) (ptAt c (c.length + 1)) = Cf x y (ptAt c (0 + c.length - 1)) (ptAt c 0) (ptAt c (0 + 1))
      rw [show c.length + c.length - 1 = (0 + c.length - 1) + c.length by omega, ptAt_add, show c.length + 1 = 1 + c.length by omega, ptAt_add]
      congr 1
      have := ptAt_add c 0
      rw [Nat.zero_add] at this
      exact this)
    rw [← this]
    exact sumN_congr fun k _ => by
      show _ = Cf x y (ptAt c (k + 1 + c.length - 1)) (ptAt c (k + 1)) (ptAt c (k + 1 + 1))
      rw [show k + 1 + c.length - 1 = k + c.length by omega, ptAt_add]
/-- the winding of an outline, by the reference -/
def windA (l : List (List S30)) (x y : Int) : Int := (l.map fun c => windR (pcsR c) (2 * x) (2 * y)).sum
theorem windA_eq (l : List (List S30)) (x y : Int) : windA l x y = wind (allP l) x y := by
  rw [wind_all]
  unfold windA
  congr 1
  exact List.map_congr_left fun c _ => wind_R c x y
end Go.Proofs.YtleljodcdbhifaaDoor
/- The reference's numbers of 128 bits: product, compare; size, sign, Root. -/
set_option linter.unusedVariables false
set_option linter.unusedSimpArgs false
namespace Go.Proofs.YtleljodcdbhifaaDoor
open Go.RowKit
theorem signR_any (n : Int) (w : World) : Calls Tryd.prog 65 #[.int .i64 n] w fun e w' => e = .returned (.int .i64 (sg n)) ∧ w = w' := by
  by_cases h : n < 0
  · rw [sg_neg h]
    have d : decide (n < 0) = true := decide_eq_true h
    go_enter Tryd.func65, Tryd.ntmps65
    go_wp2
    go_ret
    exact ⟨rfl, rfl⟩
  · have d : decide (n < 0) = false := decide_eq_false h
    by_cases h2 : 0 < n
    · rw [sg_pos h2]
      have d2 : decide (0 < n) = true := decide_eq_true h2
      go_enter Tryd.func65, Tryd.ntmps65
      go_wp2
      go_ret
      exact ⟨rfl, rfl⟩
    · have d2 : decide (0 < n) = false := decide_eq_false h2
      have e : sg n = 0 := by unfold sg; rw [if_neg h, if_neg h2]
      rw [e]
      go_enter Tryd.func65, Tryd.ntmps65
      go_wp2
      go_ret
      exact ⟨rfl, rfl⟩
theorem sizeR_any (n : Int) (w : World) (hn : n.natAbs < 9223372036854775808) : Calls Tryd.prog 68 #[.int .i64 n] w fun e w' => e = .returned (.int .u64 (n.natAbs : Int)) ∧ w = w' := by
  by_cases h : n < 0
  · have d : decide (n < 0) = true := decide_eq_true h
    have e : (n.natAbs : Int) = -n := by omega
    rw [e]
    have q0 : -9223372036854775808 ≤ -n := by omega
    have q1 : -n ≤ 9223372036854775807 := by omega
    have q2 : IntKind.u64.wrap (-n) = -n := by rw [← e]; exact wrapN _ (by omega)
    go_enter Tryd.func68, Tryd.ntmps68
    go_wp2
    go_ret
    exact ⟨rfl, rfl⟩
  · have d : decide (n < 0) = false := decide_eq_false h
    have e : (n.natAbs : Int) = n := by omega
    rw [e]
    have q2 : IntKind.u64.wrap n = n := by rw [← e]; exact wrapN _ (by omega)
    go_enter Tryd.func68, Tryd.ntmps68
    go_wp2
    go_ret
    exact ⟨rfl, rfl⟩
theorem prod_nat (x y : Nat) (hx : x < 18446744073709551616) (hy : y < 18446744073709551616) : ∃ a b c d m : Nat, (x % 4294967296) * (y % 4294967296) = a ∧ (x % 4294967296) * (y / 4294967296) = b ∧ (x / 4294967296) * (y % 4294967296) = c ∧ (x / 4294967296) * (y / 4294967296) = d ∧
    a / 4294967296 + b % 4294967296 + c % 4294967296 = m ∧ a < 18446744073709551616 ∧ b < 18446744073709551616 ∧ c < 18446744073709551616 ∧ d < 18446744073709551616 ∧ m < 12884901888 ∧
    d + b / 4294967296 + c / 4294967296 + m / 4294967296 = x * y / 18446744073709551616 ∧ m % 4294967296 * 4294967296 + a % 4294967296 = x * y % 18446744073709551616 ∧ d + b / 4294967296 + c / 4294967296 + m / 4294967296 < 18446744073709551616 := by
  obtain ⟨x1, hx1⟩ : ∃ x1, x / 4294967296 = x1 := ⟨_, rfl⟩
  obtain ⟨x0, hx0⟩ : ∃ x0, x % 4294967296 = x0 := ⟨_, rfl⟩
  obtain ⟨y1, hy1⟩ : ∃ y1, y / 4294967296 = y1 := ⟨_, rfl⟩
  obtain ⟨y0, hy0⟩ : ∃ y0, y % 4294967296 = y0 := ⟨_, rfl⟩
  rw [hx0, hx1, hy0, hy1]
  have ex : x = x1 * 4294967296 + x0 := by omega
  have ey : y = y1 * 4294967296 + y0 := by omega
  have bd := Lib.half_mul_le (a := x1) (b := y1) (by omega) (by omega)
  have bb := Lib.half_mul_le (a := x0) (b := y1) (by omega) (by omega)
  have bc := Lib.half_mul_le (a := x1) (b := y0) (by omega) (by omega)
  have ba := Lib.half_mul_le (a := x0) (b := y0) (by omega) (by omega)
  have e : x * y = x1 * y1 * 18446744073709551616 + (x0 * y1 + x1 * y0) * 4294967296 + x0 * y0 := by rw [ex, ey]; grind
  refine ⟨x0 * y0, x0 * y1, x1 * y0, x1 * y1, _, rfl, rfl, rfl, rfl, rfl, ?_⟩
  rw [e]
  generalize x0 * y0 = a at *
  generalize x0 * y1 = b at *
  generalize x1 * y0 = c at *
  generalize x1 * y1 = d at *
  clear ex ey hx hy hx1 hx0 hy1 hy0 e
  omega
theorem orNA (m a : Nat) : bits .or .u64 ((m % 4294967296 * 4294967296 : Nat) : Int) ((a % 4294967296 : Nat) : Int) = ((m % 4294967296 * 4294967296 + a % 4294967296 : Nat) : Int) := by
  have h := bits_or_u64_nat (m % 4294967296 * 4294967296) (a % 4294967296) (by omega) (by omega)
  have e : m % 4294967296 * 4294967296 ||| a % 4294967296 = m % 4294967296 * 4294967296 + a % 4294967296 := by
    have := Nat.two_pow_add_eq_or_of_lt (i := 32) (b := a % 4294967296) (by omega) (m % 4294967296)
    rw [Nat.mul_comm]
    exact this.symm
  rw [e] at h
  exact h
theorem shlN (m : Nat) : IntKind.u64.wrap ((m : Int) * 4294967296) = ((m % 4294967296 * 4294967296 : Nat) : Int) := by
  rw [IntKind.wrap_u64]; omega
set_option maxHeartbeats 1000000 in
theorem product_any (x y : Nat) (hx : x < 18446744073709551616) (hy : y < 18446744073709551616) (w : World) :
    Calls Tryd.prog 67 #[.int .u64 x, .int .u64 y] w fun e w' => e = .returned (.agg #[.int .u64 ((x * y / 18446744073709551616 : Nat) : Int), .int .u64 ((x * y % 18446744073709551616 : Nat) : Int)]) ∧ Below w.heap.size w w' := by
  obtain ⟨a, b, c, d, m, ea, eb, ec, ed, em, ba, bb, bc, bd, bm, eh, el, bh⟩ := prod_nat x y hx hy
  go_enter Tryd.func67, Tryd.ntmps67
  go_wp2
  simp only [maskN x hx, maskN y hy, divN, mulN, addN, ea, eb, ec, ed]
  simp only [wrapN _ ba, wrapN _ bb, wrapN _ bc, wrapN _ bd, maskN _ ba, maskN _ bb, maskN _ bc, divN, addN]
  simp only [wrapN (a / 4294967296 + b % 4294967296) (by omega), wrapN (d + b / 4294967296) (by omega), addN, em]
  simp only [wrapN m (by omega), wrapN (d + b / 4294967296 + c / 4294967296) (by omega), shlN, orNA, divN, addN]
  rw [eh] at bh
  simp only [eh, el, wrapN _ bh]
  refine bodyPost_ret (res_c rfl _ _ w.heap.size 104 #[_, _] _ rfl (Blk.new w _ _ rfl) rfl Tryd.underlying104 (by kernel_rfl)) rfl ?_
  exact ⟨rfl, balloc (Below.refl _ _) _⟩
def cmpR (X Y : Nat) : Int := if X = Y then 0 else if X < Y then -1 else 1
set_option maxHeartbeats 1000000 in
theorem compare_any (a b c d : Nat) (v : Int) (hv : (if a = c ∧ b = d then 0 else if a < c ∨ (a = c ∧ b < d) then -1 else 1) = v) (w : World) : Calls Tryd.prog 66 #[.agg #[.int .u64 (a : Int), .int .u64 (b : Int)], .agg #[.int .u64 (c : Int), .int .u64 (d : Int)]] w
    fun e w' => e = .returned (.int .i64 v) ∧ Below w.heap.size w w' := by
  have HV := Lib.hid hv
  clear hv
  have HB : Below w.heap.size w ((w.alloc (.cells #[.int .u64 (a : Int), .int .u64 (b : Int)] 104)).alloc (.cells #[.int .u64 (c : Int), .int .u64 (d : Int)] 104)) := balloc (balloc (Below.refl _ _) _) _
  have c1 : ((a : Int) == (c : Int)) = true ∨ ((a : Int) == (c : Int)) = false := by cases ((a : Int) == (c : Int)) <;> simp
  have c2 : ((b : Int) == (d : Int)) = true ∨ ((b : Int) == (d : Int)) = false := by cases ((b : Int) == (d : Int)) <;> simp
  have c3 : decide (a < c) = true ∨ decide (a < c) = false := by cases decide (a < c) <;> simp
  have c4 : decide (b < d) = true ∨ decide (b < d) = false := by cases decide (b < d) <;> simp
  rcases c1 with c1 | c1 <;> rcases c2 with c2 | c2 <;> rcases c3 with c3 | c3 <;> rcases c4 with c4 | c4
  all_goals
    go_enter Tryd.func66, Tryd.ntmps66
    go_wp2
    first
      | (exfalso; simp at c1 c2 c3 c4; omega)
      | (go_ret
         exact ⟨ret_int (by rw [← HV.out]; simp at c1 c2 c3 c4; split <;> (try split) <;> omega), HB⟩)
theorem cmpR_wide (X Y : Nat) : (if X / 18446744073709551616 = Y / 18446744073709551616 ∧ X % 18446744073709551616 = Y % 18446744073709551616 then (0 : Int) else if X / 18446744073709551616 < Y / 18446744073709551616 ∨ (X / 18446744073709551616 = Y / 18446744073709551616 ∧ X % 18446744073709551616 < Y % 18446744073709551616) then -1 else 1) = cmpR X Y := by
  unfold cmpR
  by_cases h : X = Y
  · subst h
    rw [if_pos ⟨rfl, rfl⟩, if_pos rfl]
  · rw [if_neg (fun k => h (cmp_eq.1 k)), if_neg h]
    by_cases h1 : X < Y
    · rw [if_pos (by omega), if_pos h1]
    · rw [if_neg (by omega), if_neg h1]
theorem rt_ref (p q d : Int) (hd : 0 ≤ d) : rt p q d = if sg p = 0 ∨ sg q * sg d = 0 ∨ sg p = sg q * sg d then (if sg p = 0 then sg q * sg d else sg p) else sg p * cmpR (p.natAbs * p.natAbs) (q.natAbs * q.natAbs * d.toNat) := by
  have hp := abs_sq p
  have hq := abs_sq q
  rcases Int.le_iff_lt_or_eq.1 hd with h | h
  · have e1 : sg d = 1 := sg_pos h
    rw [e1, Int.mul_one]
    have hQ : q * q * d = ((q.natAbs * q.natAbs * d.toNat : Nat) : Int) := by
      rw [← hq, Int.natCast_mul (q.natAbs * q.natAbs), Int.toNat_of_nonneg hd]
    have hrt : rt p q d = if sg p = sg q ∨ sg q = 0 then sg p else if sg p = 0 then sg q else if p * p = q * q * d then 0 else if q * q * d < p * p then sg p else sg q := by
      have hz : ¬ d = 0 := by omega
      unfold rt; simp only [if_neg hz]
    rw [hrt, hQ, ← hp]
    generalize p.natAbs * p.natAbs = X
    generalize q.natAbs * q.natAbs * d.toNat = Y
    clear hQ hrt hp hq hd
    unfold cmpR
    rcases sg_cases p with ⟨_, a⟩ | ⟨_, a⟩ | ⟨_, a⟩ <;> rcases sg_cases q with ⟨_, b⟩ | ⟨_, b⟩ | ⟨_, b⟩ <;> rw [a, b] <;> simp <;> (repeat' split) <;> omega
  · subst h
    rw [rt_zero_d]
    simp [sg_zero]
set_option maxHeartbeats 4000000 in
theorem rootR_any (p q d : Int) (w : World) (hp : p.natAbs < 9223372036854775808) (hq : q * q < 9223372036854775808) (hd0 : 0 ≤ d) (hd : d < 9223372036854775808) :
    Calls Tryd.prog 64 #[.int .i64 p, .int .i64 q, .int .i64 d] w fun e w' => e = .returned (.int .i64 (rt p q d)) ∧ Below w.heap.size w w' := by
  have R := rt_ref p q d hd0
  obtain ⟨n, rfl⟩ := Int.eq_ofNat_of_zero_le hd0
  rw [Int.toNat_natCast] at R
  have hqq := abs_sq q
  have hqn : q.natAbs < 4294967296 := by
    rcases Nat.lt_or_ge q.natAbs 4294967296 with h | h
    · exact h
    · exfalso
      have := Nat.mul_le_mul h h
      omega
  obtain ⟨v, hv⟩ : ∃ v, rt p q (n : Int) = v := ⟨_, rfl⟩
  rw [hv] at R ⊢
  obtain ⟨X, hX⟩ : ∃ X, p.natAbs * p.natAbs = X := ⟨_, rfl⟩
  obtain ⟨Y, hY⟩ : ∃ Y, q.natAbs * q.natAbs * n = Y := ⟨_, rfl⟩
  rw [hX, hY] at R
  have hcm := cmpR_wide X Y
  have wq : IntKind.u64.wrap (q * q) = ((q.natAbs * q.natAbs : Nat) : Int) := by rw [← hqq]; exact wrapN _ (by omega)
  have bq : q.natAbs * q.natAbs < 18446744073709551616 := by omega
  have bd : n < 18446744073709551616 := by omega
  have bp : p.natAbs < 18446744073709551616 := by omega
  have bqn : q.natAbs < 9223372036854775808 := by omega
  obtain ⟨C, hC⟩ : ∃ C, cmpR X Y = C := ⟨_, rfl⟩
  have hC3 : C = -1 ∨ C = 0 ∨ C = 1 := by rw [← hC]; unfold cmpR; (repeat' split) <;> simp
  rw [hC] at R hcm
  clear hC hv hqq hqn hq
  obtain ⟨A, hA⟩ : ∃ A, sg p = A := ⟨_, rfl⟩
  obtain ⟨B, hB⟩ : ∃ B, sg q = B := ⟨_, rfl⟩
  obtain ⟨D, hD⟩ : ∃ D, sg (n : Int) = D := ⟨_, rfl⟩
  rw [hA, hB, hD] at R
  have A3 : A = -1 ∨ A = 0 ∨ A = 1 := by rcases sg_cases p with ⟨_, a⟩ | ⟨_, a⟩ | ⟨_, a⟩ <;> omega
  have B3 : B = -1 ∨ B = 0 ∨ B = 1 := by rcases sg_cases q with ⟨_, a⟩ | ⟨_, a⟩ | ⟨_, a⟩ <;> omega
  have D2 : D = 0 ∨ D = 1 := by rcases sg_cases (n : Int) with ⟨_, a⟩ | ⟨_, a⟩ | ⟨_, a⟩ <;> omega
  have HA := Lib.hid hA
  have HB := Lib.hid hB
  have HD := Lib.hid hD
  have XX := Lib.hid hX
  have YY := Lib.hid hY
  have HC := Lib.hid hcm
  have HR := Lib.hid R
  have WQ := Lib.hid wq
  clear hA hB hD hX hY hcm R wq
  rcases A3 with rfl | rfl | rfl <;> rcases B3 with rfl | rfl | rfl <;> rcases D2 with rfl | rfl
  all_goals
    go_enter Tryd.func64, Tryd.ntmps64
    go_wp2_with fail
    refine (signR_any p w).mono ?_
    rintro e w' ⟨rfl, rfl⟩
    rw [HA.out]
    go_wp2_with fail
    refine (signR_any q w).mono ?_
    rintro e w' ⟨rfl, rfl⟩
    rw [HB.out]
    go_wp2_with fail
    refine (signR_any n w).mono ?_
    rintro e w' ⟨rfl, rfl⟩
    rw [HD.out]
    go_wp2_with fail
    first
      | (go_ret
         exact ⟨ret_int HR.out.symm, Below.refl _ _⟩)
      | skip
  all_goals
    refine (sizeR_any p w hp).mono ?_
    rintro e w' ⟨rfl, rfl⟩
    go_wp2_with fail
    refine (sizeR_any p w hp).mono ?_
    rintro e w' ⟨rfl, rfl⟩
    go_wp2_with fail
    refine (product_any p.natAbs p.natAbs bp bp w).mono ?_
    rintro e w1 ⟨rfl, hb1⟩
    rw [XX.out]
    go_wp2_with fail
    refine (sizeR_any q w1 bqn).mono ?_
    rintro e w' ⟨rfl, rfl⟩
    go_wp2_with fail
    refine (sizeR_any q w1 bqn).mono ?_
    rintro e w' ⟨rfl, rfl⟩
    go_wp2_with fail
    rw [WQ.out]
    refine (product_any (q.natAbs * q.natAbs) n bq bd w1).mono ?_
    rintro e w2 ⟨rfl, hb2⟩
    rw [YY.out]
    go_wp2_with fail
    refine (compare_any _ _ _ _ C HC.out w2).mono ?_
    rintro e w3 ⟨rfl, hb3⟩
    have HB' := bthen' (bthen' hb1 hb2) hb3
    rcases hC3 with rfl | rfl | rfl
    all_goals
      go_wp2
      go_ret
      exact ⟨ret_int HR.out.symm, HB'⟩
end Go.Proofs.YtleljodcdbhifaaDoor
/- The reference's straight line. -/
set_option linter.unusedVariables false
set_option linter.unusedSimpArgs false
namespace Go.Proofs.YtleljodcdbhifaaDoor
open Go.RowKit Go.Proofs.YtleljodcdbhifaaDoorW.PrintWords Go.Proofs.YtleljodcdbhifaaDoorW.PrintLast Go.Proofs.YtleljodcdbhifaaDoorW.PrintMore
theorem cntL_ref (x0 y0 x2 y2 x y : Int) : cntL x0 y0 x2 y2 x y = if y0 ≤ y ∧ y < y2 then (if (x2 - x0) * (y - y0) - (x - x0) * (y2 - y0) ≤ 0 then 1 else 0) else if y2 ≤ y ∧ y < y0 then (if 0 ≤ (x2 - x0) * (y - y0) - (x - x0) * (y2 - y0) then -1 else 0) else 0 := by
  unfold cntL
  generalize (x2 - x0) * (y - y0) - (x - x0) * (y2 - y0) = r
  by_cases h1 : y0 ≤ y ∧ y < y2
  · rw [if_neg (by omega), if_pos h1, sg_pos (by omega)]
    split <;> split <;> omega
  · rw [if_neg h1]
    by_cases h2 : y2 ≤ y ∧ y < y0
    · rw [if_neg (by omega), if_pos h2, sg_neg (by omega)]
      split <;> split <;> omega
    · rw [if_neg h2, if_pos (by omega)]
set_option maxRecDepth 100000 in
set_option maxHeartbeats 4000000 in
theorem lineR_any (x0 y0 x2 y2 : Int) (f0 f2 : Bool) (x y : Int) (w : World) (hx0 : near13 x0) (hy0 : near13 y0) (hx2 : near13 x2) (hy2 : near13 y2) (hx : near14 x) (hy : near14 y) :
    Calls Tryd.prog 53 #[.agg #[.int .i64 x0, .int .i64 y0, .bool f0], .agg #[.int .i64 x2, .int .i64 y2, .bool f2], .int .i64 x, .int .i64 y] w fun e w' => e = .returned (.int .i64 (cntL x0 y0 x2 y2 x y)) ∧ Below w.heap.size w w' := by
  unfold near13 at *
  unfold near14 at *
  have R := cntL_ref x0 y0 x2 y2 x y
  obtain ⟨v, hv⟩ : ∃ v, cntL x0 y0 x2 y2 x y = v := ⟨_, rfl⟩
  obtain ⟨r, hr⟩ : ∃ r, (x2 - x0) * (y - y0) - (x - x0) * (y2 - y0) = r := ⟨_, rfl⟩
  rw [hv, hr] at R
  rw [hv]
  clear hv
  have p1 := bnd (a := x2 - x0) (b := y - y0) (A := 32768) (B := 32768) (by omega) (by omega)
  have p2 := bnd (a := x - x0) (b := y2 - y0) (A := 32768) (B := 32768) (by omega) (by omega)
  have u1 : IntKind.i64.wrap ((x2 - x0) * (y - y0)) = (x2 - x0) * (y - y0) := IntWalk.i64_in _ (by omega)
  have u2 : IntKind.i64.wrap ((x - x0) * (y2 - y0)) = (x - x0) * (y2 - y0) := IntWalk.i64_in _ (by omega)
  have u3 : IntKind.i64.wrap ((x2 - x0) * (y - y0) - (x - x0) * (y2 - y0)) = r := by rw [← hr]; exact IntWalk.i64_in _ (by omega)
  have H0 := Lib.hid (balloc (balloc (Below.refl w.heap.size w) (.cells #[.int .i64 x0, .int .i64 y0, .bool f0] 30)) (.cells #[.int .i64 x2, .int .i64 y2, .bool f2] 30))
  have HR := Lib.hid R
  clear p1 p2 hr R
  by_cases h1 : y0 ≤ y <;> by_cases h2 : y < y2
  · have d1 : decide (y0 ≤ y) = true := decide_eq_true h1
    have d2 : decide (y < y2) = true := decide_eq_true h2
    have d3 : decide (y2 ≤ y) = false := decide_eq_false (by omega)
    have HV := Lib.hid (show v = if r ≤ 0 then 1 else 0 by rw [HR.out, if_pos ⟨h1, h2⟩])
    clear HR h1 h2
    by_cases h3 : r ≤ 0
    · have d5 : decide (r ≤ 0) = true := decide_eq_true h3
      go_enter Tryd.func53, Tryd.ntmps53
      go_wp2
      go_ret
      exact ⟨ret_int (by rw [HV.out, if_pos (by omega)]), H0.out⟩
    · have d5 : decide (r ≤ 0) = false := decide_eq_false h3
      go_enter Tryd.func53, Tryd.ntmps53
      go_wp2
      go_ret
      exact ⟨ret_int (by rw [HV.out, if_neg (by omega)]), H0.out⟩
  · have d1 : decide (y0 ≤ y) = true := decide_eq_true (by omega)
    have d2 : decide (y < y2) = false := decide_eq_false (by omega)
    have d3 : decide (y2 ≤ y) = true := decide_eq_true (by omega)
    have d4 : decide (y < y0) = false := decide_eq_false (by omega)
    have HV := Lib.hid (show v = 0 by rw [HR.out, if_neg (by omega), if_neg (by omega)])
    clear HR h1 h2
    go_enter Tryd.func53, Tryd.ntmps53
    go_wp2
    go_ret
    exact ⟨ret_int HV.out.symm, H0.out⟩
  · have d1 : decide (y0 ≤ y) = false := decide_eq_false (by omega)
    have d2 : decide (y < y2) = true := decide_eq_true (by omega)
    have d3 : decide (y2 ≤ y) = false := decide_eq_false (by omega)
    have d4 : decide (y < y0) = true := decide_eq_true (by omega)
    have HV := Lib.hid (show v = 0 by rw [HR.out, if_neg (by omega), if_neg (by omega)])
    clear HR h1 h2
    go_enter Tryd.func53, Tryd.ntmps53
    go_wp2
    go_ret
    exact ⟨ret_int HV.out.symm, H0.out⟩
  · have d1 : decide (y0 ≤ y) = false := decide_eq_false (by omega)
    have d3 : decide (y2 ≤ y) = true := decide_eq_true (by omega)
    have d4 : decide (y < y0) = true := decide_eq_true (by omega)
    have HV := Lib.hid (show v = if 0 ≤ r then -1 else 0 by rw [HR.out, if_neg (by omega), if_pos (by omega)])
    clear HR h1 h2
    by_cases h3 : 0 ≤ r
    · have d5 : decide (0 ≤ r) = true := decide_eq_true h3
      go_enter Tryd.func53, Tryd.ntmps53
      go_wp2
      go_ret
      exact ⟨ret_int (by rw [HV.out, if_pos (by omega)]), H0.out⟩
    · have d5 : decide (0 ≤ r) = false := decide_eq_false h3
      go_enter Tryd.func53, Tryd.ntmps53
      go_wp2
      go_ret
      exact ⟨ret_int (by rw [HV.out, if_neg (by omega)]), H0.out⟩
end Go.Proofs.YtleljodcdbhifaaDoor
/- The reference's curve. -/
set_option linter.unusedVariables false
set_option linter.unusedSimpArgs false
namespace Go.Proofs.YtleljodcdbhifaaDoor
open Go.RowKit Go.Proofs.YtleljodcdbhifaaDoorW.PrintWords Go.Proofs.YtleljodcdbhifaaDoorW.PrintLast Go.Proofs.YtleljodcdbhifaaDoorW.PrintMore
theorem cntC_ref0 (x0 y0 x1 y1 x2 y2 x y : Int) (h : y0 - 2 * y1 + y2 = 0) : cntC x0 y0 x1 y1 x2 y2 x y =
    if (y0 ≤ y ∧ y < y2) ∨ (y2 ≤ y ∧ y < y0) then
      (if x * (2 * (y1 - y0)) * (2 * (y1 - y0)) < (x0 - 2 * x1 + x2) * (y0 - y) * (y0 - y) - (2 * (x1 - x0)) * (y0 - y) * (2 * (y1 - y0)) + x0 * (2 * (y1 - y0)) * (2 * (y1 - y0)) then 0
       else if y0 ≤ y ∧ y < y2 then 1 else -1) else 0 := by
  unfold cntC
  rw [if_pos h]
  obtain ⟨b, hb⟩ : ∃ b, 2 * (y1 - y0) = b := ⟨_, rfl⟩
  have hy : y2 = y0 + b := by omega
  rw [hb]
  have e : (x0 - x) * b * b = x0 * b * b - x * b * b := by grind
  rw [e]
  generalize (x0 - 2 * x1 + x2) * (y0 - y) * (y0 - y) - (2 * (x1 - x0)) * (y0 - y) * b = q
  generalize x0 * b * b = s
  generalize x * b * b = t
  subst hy
  obtain ⟨c, hc⟩ : ∃ c, y0 - y = c := ⟨_, rfl⟩
  rw [hc]
  by_cases h1 : (y0 ≤ y ∧ y < y0 + b) ∨ (y0 + b ≤ y ∧ y < y0)
  · rw [if_pos h1]
    have hn : ¬ (b = 0 ∨ 0 < c * (c + b) ∨ max y0 (y0 + b) = y) := by
      rintro (k | k | k)
      · omega
      · rcases h1 with h1 | h1
        · have := Int.mul_nonneg (a := -c) (b := c + b) (by omega) (by omega)
          rw [Int.neg_mul] at this
          omega
        · have := Int.mul_nonneg (a := c) (b := -(c + b)) (by omega) (by omega)
          rw [Int.mul_neg] at this
          omega
      · omega
    rw [if_neg hn]
    rcases h1 with h1 | h1
    · rw [sg_pos (by omega), if_pos h1]
      split <;> split <;> omega
    · rw [sg_neg (by omega), if_neg (show ¬ (y0 ≤ y ∧ y < y0 + b) by omega)]
      split <;> split <;> omega
  · rw [if_neg h1]
    split
    · rfl
    · rename_i hn
      exfalso
      have h2 : ¬ 0 < c * (c + b) := fun k => hn (.inr (.inl k))
      have h3 : ¬ b = 0 := fun k => hn (.inl k)
      have h4 : ¬ max y0 (y0 + b) = y := fun k => hn (.inr (.inr k))
      rcases Int.lt_or_le 0 c with k | k
      · rcases Int.lt_or_le 0 (c + b) with k2 | k2
        · exact h2 (Int.mul_pos k k2)
        · omega
      · rcases Int.lt_or_le (c + b) 0 with k2 | k2
        · rcases Int.lt_or_le c 0 with k3 | k3
          · exact h2 (Int.mul_pos_of_neg_of_neg k3 k2)
          · omega
        · omega
def wayR (a b D pp kk way : Int) : Int := if 0 < way then (if 0 ≤ rt (-b) way D * sg a ∧ rt (-b - 2 * a) way D * sg a < 0 ∧ rt pp (way * kk) D ≤ 0 then way else 0) else (if 0 < rt (-b) way D * sg a ∧ rt (-b - 2 * a) way D * sg a ≤ 0 ∧ rt pp (way * kk) D ≤ 0 then way else 0)
theorem cntC_ref1 (x0 y0 x1 y1 x2 y2 x y a b c e f D kk pp : Int) (h : ¬ a = 0) (ha : y0 - 2 * y1 + y2 = a) (hb : 2 * (y1 - y0) = b) (hc : y0 - y = c) (he : x0 - 2 * x1 + x2 = e) (hf : 2 * (x1 - x0) = f)
    (hD : b * b - 4 * a * c = D) (hk : a * f - e * b = kk) (hp : (-b) * kk + 2 * a * (a * x0 - e * c) - 2 * a * a * x = pp) :
    cntC x0 y0 x1 y1 x2 y2 x y = if D < 0 ∨ (D = 0 ∧ a < 0) then 0 else wayR a b D pp kk (-1) + wayR a b D pp kk 1 := by
  unfold cntC
  have ep : 2 * a * (a * (x0 - x) - e * c) - b * kk = pp := by rw [← hp]; grind
  rw [ha, if_neg h, hb, hc, he, hf]
  unfold cntQ wayR
  rw [hD, hk, ep]
  simp only [Int.mul_comm (sg a), Int.one_mul, Int.neg_mul]
  split
  · rfl
  · rw [if_neg (show ¬ (0 : Int) < -1 by omega), if_pos (show (0 : Int) < 1 by omega)]
    split <;> split <;> rfl
set_option maxRecDepth 100000 in
set_option maxHeartbeats 4000000 in
theorem curveR_any (x0 y0 x1 y1 x2 y2 : Int) (f0 f1 f2 fc : Bool) (x y : Int) (w : World) (hx0 : near13 x0) (hy0 : near13 y0) (hx1 : near13 x1) (hy1 : near13 y1) (hx2 : near13 x2) (hy2 : near13 y2) (hx : near14 x) (hy : near14 y) :
    Calls Tryd.prog 52 #[.agg #[.int .i64 x0, .int .i64 y0, .bool f0, .int .i64 x1, .int .i64 y1, .bool f1, .int .i64 x2, .int .i64 y2, .bool f2, .bool fc], .int .i64 x, .int .i64 y] w fun e w' => e = .returned (.int .i64 (cntC x0 y0 x1 y1 x2 y2 x y)) ∧ Below w.heap.size w w' := by
  unfold near13 at *
  unfold near14 at *
  have hB := Blk.new w #[.int .i64 x0, .int .i64 y0, .bool f0, .int .i64 x1, .int .i64 y1, .bool f1, .int .i64 x2, .int .i64 y2, .bool f2, .bool fc] 89 rfl
  have H0 := Lib.hid (balloc (Below.refl w.heap.size w) (.cells #[.int .i64 x0, .int .i64 y0, .bool f0, .int .i64 x1, .int .i64 y1, .bool f1, .int .i64 x2, .int .i64 y2, .bool f2, .bool fc] 89))
  have c0 := hB.cell 0
  have c1 := hB.cell 1
  have c3 := hB.cell 3
  have c4 := hB.cell 4
  have c6 := hB.cell 6
  have c7 := hB.cell 7
  simp only [List.getElem?_toArray, List.getElem?_cons_zero, List.getElem?_cons_succ] at c0 c1 c3 c4 c6 c7
  clear hB
  obtain ⟨v, hv⟩ : ∃ v, cntC x0 y0 x1 y1 x2 y2 x y = v := ⟨_, rfl⟩
  rw [hv]
  have HV0 := Lib.hid hv
  clear hv
  go_enter Tryd.func52, Tryd.ntmps52
  go_upto_region 6 with fail
  generalize w.alloc (.cells #[.int .i64 x0, .int .i64 y0, .bool f0, .int .i64 x1, .int .i64 y1, .bool f1, .int .i64 x2, .int .i64 y2, .bool f2, .bool fc] 89) = w1 at *
  obtain ⟨g, hg⟩ : ∃ g, g = w.heap.size := ⟨_, rfl⟩
  rw [← hg] at c0 c1 c3 c4 c6 c7 ⊢
  have H1 : Hid (Below w.heap.size w w1) := by rw [← hg]; rw [← hg] at H0; exact H0
  clear hg H0 c3 c4 c6
  have R0 := cntC_ref0 x0 y0 x1 y1 x2 y2 x y
  rw [HV0.out] at R0
  obtain ⟨a, ha⟩ : ∃ a, y0 - 2 * y1 + y2 = a := ⟨_, rfl⟩
  obtain ⟨b, hb⟩ : ∃ b, 2 * (y1 - y0) = b := ⟨_, rfl⟩
  obtain ⟨c, hc⟩ : ∃ c, y0 - y = c := ⟨_, rfl⟩
  obtain ⟨e, he⟩ : ∃ e, x0 - 2 * x1 + x2 = e := ⟨_, rfl⟩
  obtain ⟨f, hf⟩ : ∃ f, 2 * (x1 - x0) = f := ⟨_, rfl⟩
  rw [ha, hb, hc, he, hf] at R0
  rw [ha, hb, hc, he, hf]
  have ba : -32768 ≤ a ∧ a ≤ 32768 := by omega
  have bb : -32768 ≤ b ∧ b ≤ 32768 := by omega
  have bc : -24576 ≤ c ∧ c ≤ 24576 := by omega
  have be : -32768 ≤ e ∧ e ≤ 32768 := by omega
  have bf : -32768 ≤ f ∧ f ≤ 32768 := by omega
  by_cases h0 : a = 0
  · as_aux_lemma =>
    have da : (a == 0) = true := by simpa using h0
    have HR := Lib.hid (R0 h0)
    have q1 := bnd (a := e) (b := c) (A := 32768) (B := 24576) (by omega) (by omega)
    have q2 := bnd (a := e * c) (b := c) (A := 805306368) (B := 24576) (by omega) (by omega)
    have q3 := bnd (a := f) (b := c) (A := 32768) (B := 24576) (by omega) (by omega)
    have q4 := bnd (a := f * c) (b := b) (A := 805306368) (B := 32768) (by omega) (by omega)
    have q5 := bnd (a := x0) (b := b) (A := 8192) (B := 32768) (by omega) (by omega)
    have q6 := bnd (a := x0 * b) (b := b) (A := 268435456) (B := 32768) (by omega) (by omega)
    have q7 := bnd (a := x) (b := b) (A := 16384) (B := 32768) (by omega) (by omega)
    have q8 := bnd (a := x * b) (b := b) (A := 536870912) (B := 32768) (by omega) (by omega)
    have u1 : IntKind.i64.wrap (e * c) = e * c := IntWalk.i64_in _ (by omega)
    have u2 : IntKind.i64.wrap (e * c * c) = e * c * c := IntWalk.i64_in _ (by omega)
    have u3 : IntKind.i64.wrap (f * c) = f * c := IntWalk.i64_in _ (by omega)
    have u4 : IntKind.i64.wrap (f * c * b) = f * c * b := IntWalk.i64_in _ (by omega)
    have u5 : IntKind.i64.wrap (x0 * b) = x0 * b := IntWalk.i64_in _ (by omega)
    have u6 : IntKind.i64.wrap (x0 * b * b) = x0 * b * b := IntWalk.i64_in _ (by omega)
    have u7 : IntKind.i64.wrap (e * c * c - f * c * b) = e * c * c - f * c * b := IntWalk.i64_in _ (by omega)
    have u8 : IntKind.i64.wrap (e * c * c - f * c * b + x0 * b * b) = e * c * c - f * c * b + x0 * b * b := IntWalk.i64_in _ (by omega)
    have u9 : IntKind.i64.wrap (x * b) = x * b := IntWalk.i64_in _ (by omega)
    have v1 : IntKind.i64.wrap (x * b * b) = x * b * b := IntWalk.i64_in _ (by omega)
    have k9 : ¬ (y0 ≤ y ∧ y < y2) ∨ ¬ (y2 ≤ y ∧ y < y0) := by omega
    clear R0 h0 HV0 ha hb hc he hf q1 q2 q3 q4 q5 q6 q7 q8
    by_cases h1 : y0 ≤ y <;> by_cases h2 : y < y2
    · have d1 : decide (y0 ≤ y) = true := decide_eq_true h1
      have d2 : decide (y < y2) = true := decide_eq_true h2
      have d3 : decide (y2 ≤ y) = false := decide_eq_false (by omega)
      have HV := Lib.hid (show v = if x * b * b < e * c * c - f * c * b + x0 * b * b then 0 else 1 by have hr := HR.out; rw [if_pos (show (y0 ≤ y ∧ y < y2) ∨ (y2 ≤ y ∧ y < y0) from .inl ⟨h1, h2⟩), if_pos (show y0 ≤ y ∧ y < y2 from ⟨h1, h2⟩)] at hr; exact hr)
      by_cases h3 : x * b * b < e * c * c - f * c * b + x0 * b * b
      · have d5 : decide (x * b * b < e * c * c - f * c * b + x0 * b * b) = true := decide_eq_true h3
        rw [if_pos h3] at HV
        clear HR h1 h2 h3
        go_wp2_with fail
        go_ret
        exact ⟨ret_int HV.out.symm, H1.out⟩
      · have d5 : decide (x * b * b < e * c * c - f * c * b + x0 * b * b) = false := decide_eq_false h3
        rw [if_neg h3] at HV
        clear HR h1 h2 h3
        go_wp2_with fail
        go_ret
        exact ⟨ret_int HV.out.symm, H1.out⟩
    · have d1 : decide (y0 ≤ y) = true := decide_eq_true h1
      have d2 : decide (y < y2) = false := decide_eq_false h2
      have d3 : decide (y2 ≤ y) = true := decide_eq_true (by omega)
      have d4 : decide (y < y0) = false := decide_eq_false (by omega)
      have HV := Lib.hid (show v = 0 by have hr := HR.out; rw [if_neg (show ¬ ((y0 ≤ y ∧ y < y2) ∨ (y2 ≤ y ∧ y < y0)) by omega)] at hr; exact hr)
      clear HR h1 h2
      go_wp2_with fail
      go_ret
      exact ⟨ret_int HV.out.symm, H1.out⟩
    · have d1 : decide (y0 ≤ y) = false := decide_eq_false h1
      have d2 : decide (y < y2) = true := decide_eq_true h2
      have d3 : decide (y2 ≤ y) = false := decide_eq_false (by omega)
      have d4 : decide (y < y0) = true := decide_eq_true (by omega)
      have HV := Lib.hid (show v = 0 by have hr := HR.out; rw [if_neg (show ¬ ((y0 ≤ y ∧ y < y2) ∨ (y2 ≤ y ∧ y < y0)) by omega)] at hr; exact hr)
      clear HR h1 h2
      go_wp2_with fail
      go_ret
      exact ⟨ret_int HV.out.symm, H1.out⟩
    · have d1 : decide (y0 ≤ y) = false := decide_eq_false h1
      have d2 : decide (y < y2) = false := decide_eq_false h2
      have d3 : decide (y2 ≤ y) = true := decide_eq_true (by omega)
      have d4 : decide (y < y0) = true := decide_eq_true (by omega)
      have HV := Lib.hid (show v = if x * b * b < e * c * c - f * c * b + x0 * b * b then 0 else -1 by have hr := HR.out; rw [if_pos (show (y0 ≤ y ∧ y < y2) ∨ (y2 ≤ y ∧ y < y0) from .inr ⟨by omega, by omega⟩), if_neg (show ¬ (y0 ≤ y ∧ y < y2) by omega)] at hr; exact hr)
      by_cases h3 : x * b * b < e * c * c - f * c * b + x0 * b * b
      · have d5 : decide (x * b * b < e * c * c - f * c * b + x0 * b * b) = true := decide_eq_true h3
        rw [if_pos h3] at HV
        clear HR h1 h2 h3
        go_wp2_with fail
        go_ret
        exact ⟨ret_int HV.out.symm, H1.out⟩
      · have d5 : decide (x * b * b < e * c * c - f * c * b + x0 * b * b) = false := decide_eq_false h3
        rw [if_neg h3] at HV
        clear HR h1 h2 h3
        go_wp2_with fail
        go_ret
        exact ⟨ret_int HV.out.symm, H1.out⟩
  · as_aux_lemma =>
    have da : (a == 0) = false := by simpa using h0
    have q1 := bnd (a := b) (b := b) (A := 32768) (B := 32768) (by omega) (by omega)
    have q2 := bnd (a := 4 * a) (b := c) (A := 131072) (B := 24576) (by omega) (by omega)
    have q3 := bnd (a := a) (b := f) (A := 32768) (B := 32768) (by omega) (by omega)
    have q4 := bnd (a := e) (b := b) (A := 32768) (B := 32768) (by omega) (by omega)
    have q5 := bnd (a := a) (b := x0) (A := 32768) (B := 8192) (by omega) (by omega)
    have q6 := bnd (a := e) (b := c) (A := 32768) (B := 24576) (by omega) (by omega)
    have q7 := bnd (a := 2 * a) (b := a * x0 - e * c) (A := 65536) (B := 1610612736) (by omega) (by omega)
    have q8 := bnd (a := -b) (b := a * f - e * b) (A := 32768) (B := 2147483648) (by omega) (by omega)
    have q9 := bnd (a := 2 * a) (b := a) (A := 65536) (B := 32768) (by omega) (by omega)
    have q0 := bnd (a := 2 * a * a) (b := x) (A := 2147483648) (B := 16384) (by omega) (by omega)
    have u1 : IntKind.i64.wrap (b * b) = b * b := IntWalk.i64_in _ (by omega)
    have u2 : IntKind.i64.wrap (4 * a * c) = 4 * a * c := IntWalk.i64_in _ (by omega)
    have u3 : IntKind.i64.wrap (b * b - 4 * a * c) = b * b - 4 * a * c := IntWalk.i64_in _ (by omega)
    have u4 : IntKind.i64.wrap (a * f) = a * f := IntWalk.i64_in _ (by omega)
    have u5 : IntKind.i64.wrap (e * b) = e * b := IntWalk.i64_in _ (by omega)
    have u6 : IntKind.i64.wrap (a * f - e * b) = a * f - e * b := IntWalk.i64_in _ (by omega)
    obtain ⟨D, hD⟩ : ∃ D, b * b - 4 * a * c = D := ⟨_, rfl⟩
    obtain ⟨kk, hk⟩ : ∃ kk, a * f - e * b = kk := ⟨_, rfl⟩
    obtain ⟨pp, hp⟩ : ∃ pp, (-b) * kk + 2 * a * (a * x0 - e * c) - 2 * a * a * x = pp := ⟨_, rfl⟩
    have bD : -9000000000 ≤ D ∧ D ≤ 9000000000 := by omega
    have bk : -2147483648 ≤ kk ∧ kk ≤ 2147483648 := by omega
    have u7 : IntKind.i64.wrap (a * x0) = a * x0 := IntWalk.i64_in _ (by omega)
    have u8 : IntKind.i64.wrap (e * c) = e * c := IntWalk.i64_in _ (by omega)
    have u9 : IntKind.i64.wrap (a * x0 - e * c) = a * x0 - e * c := IntWalk.i64_in _ (by omega)
    have v1 : IntKind.i64.wrap (2 * a * (a * x0 - e * c)) = 2 * a * (a * x0 - e * c) := IntWalk.i64_in _ (by omega)
    rw [hk] at q8
    have v2 : IntKind.i64.wrap ((-b) * kk) = (-b) * kk := IntWalk.i64_in _ (by omega)
    have v3 : IntKind.i64.wrap ((-b) * kk + 2 * a * (a * x0 - e * c)) = (-b) * kk + 2 * a * (a * x0 - e * c) := IntWalk.i64_in _ (by omega)
    have v4 : IntKind.i64.wrap (2 * a * a) = 2 * a * a := IntWalk.i64_in _ (by omega)
    have v5 : IntKind.i64.wrap (2 * a * a * x) = 2 * a * a * x := IntWalk.i64_in _ (by omega)
    have v6 : IntKind.i64.wrap ((-b) * kk + 2 * a * (a * x0 - e * c) - 2 * a * a * x) = pp := by rw [hp]; exact IntWalk.i64_in _ (by omega)
    have bp : -400000000000000 ≤ pp ∧ pp ≤ 400000000000000 := by omega
    replace u3 : IntKind.i64.wrap (b * b - 4 * a * c) = D := u3.trans hD
    replace u6 : IntKind.i64.wrap (a * f - e * b) = kk := u6.trans hk
    have HR := cntC_ref1 x0 y0 x1 y1 x2 y2 x y a b c e f D kk pp h0 ha hb hc he hf hD hk hp
    rw [HV0.out] at HR
    clear R0 HV0 hD hk hp q1 q2 q3 q4 q5 q6 q7 q8 q9 q0 ha hb hc he hf h0
    by_cases hd1 : D < 0
    · have d1 : decide (D < 0) = true := decide_eq_true hd1
      rw [if_pos (show D < 0 ∨ (D = 0 ∧ a < 0) from .inl hd1)] at HR
      have HV := Lib.hid HR
      clear HR hd1
      go_wp2_with fail
      go_ret
      exact ⟨ret_int HV.out.symm, H1.out⟩
    have d1 : decide (D < 0) = false := decide_eq_false hd1
    by_cases hd2 : D = 0 ∧ a < 0
    · have e1 : (D == 0) = true := by simp [hd2.1]
      have e2 : decide (a < 0) = true := decide_eq_true hd2.2
      rw [if_pos (show D < 0 ∨ (D = 0 ∧ a < 0) from .inr hd2)] at HR
      have HV := Lib.hid HR
      clear HR hd1 hd2
      go_wp2_with fail
      go_ret
      exact ⟨ret_int HV.out.symm, H1.out⟩
    rw [if_neg (show ¬ (D < 0 ∨ (D = 0 ∧ a < 0)) by omega)] at HR
    have e1 : (D == 0) = false ∨ ((D == 0) = true ∧ decide (a < 0) = false) := by
      by_cases h : D = 0
      · exact .inr ⟨by simp [h], decide_eq_false (fun h' => hd2 ⟨h, h'⟩)⟩
      · exact .inl (by simpa using h)
    have bD0 : 0 ≤ D := by omega
    have bkk : kk * kk ≤ 4611686018427387904 := by
      have := bnd (a := kk) (b := kk) (A := 2147483648) (B := 2147483648) (by omega) (by omega)
      omega
    have bkn : -kk * -kk ≤ 4611686018427387904 := by rw [Int.neg_mul_neg]; exact bkk
    clear hd1 hd2
    obtain ⟨W1, hW1⟩ : ∃ W, wayR a b D pp kk (-1) = W := ⟨_, rfl⟩
    obtain ⟨W2, hW2⟩ : ∃ W, wayR a b D pp kk 1 = W := ⟨_, rfl⟩
    rw [hW1, hW2] at HR
    have HV := Lib.hid HR
    clear HR
    unfold wayR at hW1 hW2
    rw [if_neg (show ¬ (0 : Int) < -1 by omega), Int.neg_mul, Int.one_mul] at hW1
    rw [if_pos (show (0 : Int) < 1 by omega), Int.one_mul] at hW2
    obtain ⟨s, hs⟩ : ∃ s, sg a = s := ⟨_, rfl⟩
    have bs := sg_b a
    have c1_ := rt_cases (-b) 1 D
    have c2_ := rt_cases (-b - 2 * a) 1 D
    have c3_ := rt_cases pp kk D
    have c4_ := rt_cases (-b) (-1) D
    have c5_ := rt_cases (-b - 2 * a) (-1) D
    have c6_ := rt_cases pp (-kk) D
    obtain ⟨r1, h1⟩ : ∃ r, rt (-b) 1 D = r := ⟨_, rfl⟩
    obtain ⟨r2, h2⟩ : ∃ r, rt (-b - 2 * a) 1 D = r := ⟨_, rfl⟩
    obtain ⟨r3, h3⟩ : ∃ r, rt pp kk D = r := ⟨_, rfl⟩
    obtain ⟨r4, h4⟩ : ∃ r, rt (-b) (-1) D = r := ⟨_, rfl⟩
    obtain ⟨r5, h5⟩ : ∃ r, rt (-b - 2 * a) (-1) D = r := ⟨_, rfl⟩
    obtain ⟨r6, h6⟩ : ∃ r, rt pp (-kk) D = r := ⟨_, rfl⟩
    rw [hs] at bs
    rw [h1] at c1_
    rw [h2] at c2_
    rw [h3] at c3_
    rw [h4] at c4_
    rw [h5] at c5_
    rw [h6] at c6_
    have b1 := bnd (a := r1) (b := s) (A := 1) (B := 1) (by omega) (by omega)
    have b2 := bnd (a := r2) (b := s) (A := 1) (B := 1) (by omega) (by omega)
    have b4 := bnd (a := r4) (b := s) (A := 1) (B := 1) (by omega) (by omega)
    have b5 := bnd (a := r5) (b := s) (A := 1) (B := 1) (by omega) (by omega)
    have z1 : IntKind.i64.wrap (r1 * s) = r1 * s := IntWalk.i64_in _ (by omega)
    have z2 : IntKind.i64.wrap (r2 * s) = r2 * s := IntWalk.i64_in _ (by omega)
    have z4 : IntKind.i64.wrap (r4 * s) = r4 * s := IntWalk.i64_in _ (by omega)
    have z5 : IntKind.i64.wrap (r5 * s) = r5 * s := IntWalk.i64_in _ (by omega)
    rw [hs, h4, h5, h6] at hW1
    rw [hs, h1, h2, h3] at hW2
    have W1v := Lib.hid hW1.symm
    have W2v := Lib.hid hW2.symm
    have HS := Lib.hid hs
    have K1 := Lib.hid h1
    have K2 := Lib.hid h2
    have K3 := Lib.hid h3
    have K4 := Lib.hid h4
    have K5 := Lib.hid h5
    have K6 := Lib.hid h6
    have bs0 : -1 ≤ s := bs.1
    have bs1 : s ≤ 1 := bs.2
    have bW1 : -1 ≤ W1 ∧ W1 ≤ 0 := by rw [← hW1]; split <;> omega
    have bW2 : 0 ≤ W2 ∧ W2 ≤ 1 := by rw [← hW2]; split <;> omega
    have br3 : -1 ≤ r3 ∧ r3 ≤ 1 := by omega
    have br6 : -1 ≤ r6 ∧ r6 ≤ 1 := by omega
    have n1 : b ≠ -9223372036854775808 := by omega
    clear hs h1 h2 h3 h4 h5 h6 c1_ c2_ c3_ c4_ c5_ c6_ b1 b2 b4 b5 bs hW1 hW2 c7 c1
    have bpn : pp.natAbs < 9223372036854775808 := by omega
    go_upto_region 15 with fail
    rcases e1 with e1 | ⟨e1, e2⟩
    all_goals
      go_wp2_with fail
      go_loopw [17, 18] (fun o u wr => Hid (Below w.heap.size w wr) ∧ ((u = .int .i64 (-1) ∧ o = .int .i64 0) ∨ (u = .int .i64 1 ∧ o = .int .i64 W1) ∨ (u = .int .i64 3 ∧ o = .int .i64 (W1 + W2)))) (fun _ u _ => (3 - intOf u).toNat)
      case atStart => exact ⟨H1, .inl ⟨rfl, rfl⟩⟩
      case round =>
        obtain ⟨HBw, ⟨rfl, rfl⟩ | ⟨rfl, rfl⟩ | ⟨rfl, rfl⟩⟩ := hrel
        · skip
          by_cases cF : 0 < r4 * s
          · have fF : decide (0 < r4 * s) = true := decide_eq_true cF
            by_cases cT : r5 * s ≤ 0
            · have fT : decide (r5 * s ≤ 0) = true := decide_eq_true cT
              by_cases cR : r6 ≤ 0
              · have fR : decide (r6 ≤ 0) = true := decide_eq_true cR
                have HW : W1 = -1 := by rw [W1v.out, if_pos ⟨cF, cT, cR⟩]
                clear cF cT cR
                go_wp2_with fail
                refine (rootR_any (-b) (-1) D _ (by omega) (by omega) (by omega) (by omega)).mono ?_
                rintro e w2 ⟨rfl, hb2⟩
                rw [K4.out]
                go_wp2_with fail
                refine (signR_any a _).mono ?_
                rintro e w' ⟨rfl, rfl⟩
                rw [HS.out]
                go_wp2_with fail
                refine (rootR_any (-b - 2 * a) (-1) D _ (by omega) (by omega) (by omega) (by omega)).mono ?_
                rintro e w3 ⟨rfl, hb3⟩
                rw [K5.out]
                go_wp2_with fail
                refine (signR_any a _).mono ?_
                rintro e w' ⟨rfl, rfl⟩
                rw [HS.out]
                go_wp2_with fail
                refine (rootR_any pp (-kk) D _ (by omega) (by omega) (by omega) (by omega)).mono ?_
                rintro e w4 ⟨rfl, hb4⟩
                rw [K6.out]
                go_wp2_with fail
                go_roundw
                case rel => exact ⟨Lib.hid (bthen' (bthen' (bthen' HBw.out hb2) hb3) hb4), .inr (.inl ⟨rfl, by rw [HW]⟩)⟩
                case measure => simp [intOf]
              · have fR : decide (r6 ≤ 0) = false := decide_eq_false cR
                have HW : W1 = 0 := by rw [W1v.out, if_neg (fun h => cR h.2.2)]
                clear cF cT cR
                go_wp2_with fail
                refine (rootR_any (-b) (-1) D _ (by omega) (by omega) (by omega) (by omega)).mono ?_
                rintro e w2 ⟨rfl, hb2⟩
                rw [K4.out]
                go_wp2_with fail
                refine (signR_any a _).mono ?_
                rintro e w' ⟨rfl, rfl⟩
                rw [HS.out]
                go_wp2_with fail
                refine (rootR_any (-b - 2 * a) (-1) D _ (by omega) (by omega) (by omega) (by omega)).mono ?_
                rintro e w3 ⟨rfl, hb3⟩
                rw [K5.out]
                go_wp2_with fail
                refine (signR_any a _).mono ?_
                rintro e w' ⟨rfl, rfl⟩
                rw [HS.out]
                go_wp2_with fail
                refine (rootR_any pp (-kk) D _ (by omega) (by omega) (by omega) (by omega)).mono ?_
                rintro e w4 ⟨rfl, hb4⟩
                rw [K6.out]
                go_wp2_with fail
                go_roundw
                case rel => exact ⟨Lib.hid (bthen' (bthen' (bthen' HBw.out hb2) hb3) hb4), .inr (.inl ⟨rfl, by rw [HW]⟩)⟩
                case measure => simp [intOf]
            · have fT : decide (r5 * s ≤ 0) = false := decide_eq_false cT
              have HW : W1 = 0 := by rw [W1v.out, if_neg (fun h => cT h.2.1)]
              clear cF cT
              go_wp2_with fail
              refine (rootR_any (-b) (-1) D _ (by omega) (by omega) (by omega) (by omega)).mono ?_
              rintro e w2 ⟨rfl, hb2⟩
              rw [K4.out]
              go_wp2_with fail
              refine (signR_any a _).mono ?_
              rintro e w' ⟨rfl, rfl⟩
              rw [HS.out]
              go_wp2_with fail
              refine (rootR_any (-b - 2 * a) (-1) D _ (by omega) (by omega) (by omega) (by omega)).mono ?_
              rintro e w3 ⟨rfl, hb3⟩
              rw [K5.out]
              go_wp2_with fail
              refine (signR_any a _).mono ?_
              rintro e w' ⟨rfl, rfl⟩
              rw [HS.out]
              go_wp2_with fail
              go_roundw
              case rel => exact ⟨Lib.hid (bthen' (bthen' HBw.out hb2) hb3), .inr (.inl ⟨rfl, by rw [HW]⟩)⟩
              case measure => simp [intOf]
          · have fF : decide (0 < r4 * s) = false := decide_eq_false cF
            have HW : W1 = 0 := by rw [W1v.out, if_neg (fun h => cF h.1)]
            clear cF
            go_wp2_with fail
            refine (rootR_any (-b) (-1) D _ (by omega) (by omega) (by omega) (by omega)).mono ?_
            rintro e w2 ⟨rfl, hb2⟩
            rw [K4.out]
            go_wp2_with fail
            refine (signR_any a _).mono ?_
            rintro e w' ⟨rfl, rfl⟩
            rw [HS.out]
            go_wp2_with fail
            refine (rootR_any (-b - 2 * a) (-1) D _ (by omega) (by omega) (by omega) (by omega)).mono ?_
            rintro e w3 ⟨rfl, hb3⟩
            rw [K5.out]
            go_wp2_with fail
            refine (signR_any a _).mono ?_
            rintro e w' ⟨rfl, rfl⟩
            rw [HS.out]
            go_wp2_with fail
            go_roundw
            case rel => exact ⟨Lib.hid (bthen' (bthen' HBw.out hb2) hb3), .inr (.inl ⟨rfl, by rw [HW]⟩)⟩
            case measure => simp [intOf]
        · skip
          by_cases cF : 0 ≤ r1 * s
          · have fF : decide (0 ≤ r1 * s) = true := decide_eq_true cF
            by_cases cT : r2 * s < 0
            · have fT : decide (r2 * s < 0) = true := decide_eq_true cT
              by_cases cR : r3 ≤ 0
              · have fR : decide (r3 ≤ 0) = true := decide_eq_true cR
                have HW : W2 = 1 := by rw [W2v.out, if_pos ⟨cF, cT, cR⟩]
                clear cF cT cR
                go_wp2_with fail
                refine (rootR_any (-b) 1 D _ (by omega) (by omega) (by omega) (by omega)).mono ?_
                rintro e w2 ⟨rfl, hb2⟩
                rw [K1.out]
                go_wp2_with fail
                refine (signR_any a _).mono ?_
                rintro e w' ⟨rfl, rfl⟩
                rw [HS.out]
                go_wp2_with fail
                refine (rootR_any (-b - 2 * a) 1 D _ (by omega) (by omega) (by omega) (by omega)).mono ?_
                rintro e w3 ⟨rfl, hb3⟩
                rw [K2.out]
                go_wp2_with fail
                refine (signR_any a _).mono ?_
                rintro e w' ⟨rfl, rfl⟩
                rw [HS.out]
                go_wp2_with fail
                refine (rootR_any pp kk D _ (by omega) (by omega) (by omega) (by omega)).mono ?_
                rintro e w4 ⟨rfl, hb4⟩
                rw [K3.out]
                go_wp2_with fail
                go_roundw
                case rel => exact ⟨Lib.hid (bthen' (bthen' (bthen' HBw.out hb2) hb3) hb4), .inr (.inr ⟨rfl, by rw [HW]; try simp⟩)⟩
                case measure => simp [intOf]
              · have fR : decide (r3 ≤ 0) = false := decide_eq_false cR
                have HW : W2 = 0 := by rw [W2v.out, if_neg (fun h => cR h.2.2)]
                clear cF cT cR
                go_wp2_with fail
                refine (rootR_any (-b) 1 D _ (by omega) (by omega) (by omega) (by omega)).mono ?_
                rintro e w2 ⟨rfl, hb2⟩
                rw [K1.out]
                go_wp2_with fail
                refine (signR_any a _).mono ?_
                rintro e w' ⟨rfl, rfl⟩
                rw [HS.out]
                go_wp2_with fail
                refine (rootR_any (-b - 2 * a) 1 D _ (by omega) (by omega) (by omega) (by omega)).mono ?_
                rintro e w3 ⟨rfl, hb3⟩
                rw [K2.out]
                go_wp2_with fail
                refine (signR_any a _).mono ?_
                rintro e w' ⟨rfl, rfl⟩
                rw [HS.out]
                go_wp2_with fail
                refine (rootR_any pp kk D _ (by omega) (by omega) (by omega) (by omega)).mono ?_
                rintro e w4 ⟨rfl, hb4⟩
                rw [K3.out]
                go_wp2_with fail
                go_roundw
                case rel => exact ⟨Lib.hid (bthen' (bthen' (bthen' HBw.out hb2) hb3) hb4), .inr (.inr ⟨rfl, by rw [HW]; try simp⟩)⟩
                case measure => simp [intOf]
            · have fT : decide (r2 * s < 0) = false := decide_eq_false cT
              have HW : W2 = 0 := by rw [W2v.out, if_neg (fun h => cT h.2.1)]
              clear cF cT
              go_wp2_with fail
              refine (rootR_any (-b) 1 D _ (by omega) (by omega) (by omega) (by omega)).mono ?_
              rintro e w2 ⟨rfl, hb2⟩
              rw [K1.out]
              go_wp2_with fail
              refine (signR_any a _).mono ?_
              rintro e w' ⟨rfl, rfl⟩
              rw [HS.out]
              go_wp2_with fail
              refine (rootR_any (-b - 2 * a) 1 D _ (by omega) (by omega) (by omega) (by omega)).mono ?_
              rintro e w3 ⟨rfl, hb3⟩
              rw [K2.out]
              go_wp2_with fail
              refine (signR_any a _).mono ?_
              rintro e w' ⟨rfl, rfl⟩
              rw [HS.out]
              go_wp2_with fail
              go_roundw
              case rel => exact ⟨Lib.hid (bthen' (bthen' HBw.out hb2) hb3), .inr (.inr ⟨rfl, by rw [HW]; try simp⟩)⟩
              case measure => simp [intOf]
          · have fF : decide (0 ≤ r1 * s) = false := decide_eq_false cF
            have HW : W2 = 0 := by rw [W2v.out, if_neg (fun h => cF h.1)]
            clear cF
            go_wp2_with fail
            refine (rootR_any (-b) 1 D _ (by omega) (by omega) (by omega) (by omega)).mono ?_
            rintro e w2 ⟨rfl, hb2⟩
            rw [K1.out]
            go_wp2_with fail
            refine (signR_any a _).mono ?_
            rintro e w' ⟨rfl, rfl⟩
            rw [HS.out]
            go_wp2_with fail
            refine (rootR_any (-b - 2 * a) 1 D _ (by omega) (by omega) (by omega) (by omega)).mono ?_
            rintro e w3 ⟨rfl, hb3⟩
            rw [K2.out]
            go_wp2_with fail
            refine (signR_any a _).mono ?_
            rintro e w' ⟨rfl, rfl⟩
            rw [HS.out]
            go_wp2_with fail
            go_roundw
            case rel => exact ⟨Lib.hid (bthen' (bthen' HBw.out hb2) hb3), .inr (.inr ⟨rfl, by rw [HW]; try simp⟩)⟩
            case measure => simp [intOf]
        · go_wp2_with fail
          go_ret
          exact ⟨ret_int HV.out.symm, HBw.out⟩
end Go.Proofs.YtleljodcdbhifaaDoor
