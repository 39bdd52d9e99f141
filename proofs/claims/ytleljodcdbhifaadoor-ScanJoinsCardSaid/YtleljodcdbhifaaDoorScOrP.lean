/- The pixels of two bitmaps together. -/
import Derived.Test.YtleljodcdbhifaaDoorBa4
set_option linter.unusedVariables false
set_option linter.unusedSimpArgs false
namespace Go.Proofs.YtleljodcdbhifaaDoor
open Go.RowKit Go.Proofs.YtleljodcdbhifaaDoorW.PrintWords Go.Proofs.YtleljodcdbhifaaDoorW.PrintLast Go.Proofs.YtleljodcdbhifaaDoorW.PrintMore Hy
theorem set_getD (l : List Int) (k i : Nat) (x : Int) (h : k < l.length) : (l.set k x).getD i 0 = if i = k then x else l.getD i 0 := by
  rw [List.getD_eq_getElem?_getD, List.getElem?_set]
  by_cases hik : i = k
  · subst hik; simp [h]
  · rw [if_neg (fun e => hik e.symm), if_neg hik, List.getD_eq_getElem?_getD]
theorem orInto_at (off s : Nat) (ms rows : List Int) (i : Nat) : ∀ k, off + k ≤ rows.length → (orInto off s ms k rows).getD i 0 = if off ≤ i ∧ i < off + k then orAt (rows.getD i 0) (ms.getD (i - off) 0) s else rows.getD i 0
  | 0, _ => by rw [orInto, if_neg (by omega)]
  | k + 1, h => by
    have ih := orInto_at off s ms rows i k (by omega)
    have ih2 := orInto_at off s ms rows (off + k) k (by omega)
    rw [if_neg (by omega)] at ih2
    rw [orInto, set_getD _ _ _ _ (by rw [orInto_length]; omega), ih, ih2]
    by_cases h1 : i = off + k
    · subst h1
      rw [if_pos rfl, if_pos (by omega), show off + k - off = k by omega]
    · rw [if_neg h1]
      by_cases h2 : off ≤ i ∧ i < off + k
      · rw [if_pos h2, if_pos (by omega)]
      · rw [if_neg h2, if_neg (by omega)]
/-- what a bitmap gives to a row -/
def rowV (m : Bm) (T L : Int) (i : Nat) : Nat := if (m.T - T).toNat ≤ i ∧ i < (m.T - T).toNat + m.rows.length then (m.rows.getD (i - (m.T - T).toNat) 0).toNat * 2 ^ (m.L - L).toNat else 0
theorem orT_comm (a b : Bm) : orT a b = orT b a := by unfold orT; omega
theorem orL_comm (a b : Bm) : orL a b = orL b a := by unfold orL; omega
theorem orW_comm (a b : Bm) : orW a b = orW b a := by unfold orW orL; omega
theorem orH_comm (a b : Bm) : orH a b = orH b a := by unfold orH orT; omega
theorem orAt_zero (r : Int) (s : Nat) : orAt 0 r s = ((r.toNat * 2 ^ s : Nat) : Int) := by unfold orAt; rw [show (0 : Int).toNat = 0 from rfl, Nat.zero_or]
theorem orAt_nat (n : Nat) (r : Int) (s : Nat) : orAt (n : Int) r s = ((n ||| r.toNat * 2 ^ s : Nat) : Int) := by unfold orAt; rw [Int.toNat_natCast]
structure Two (a b : Bm) : Prop where
  ra : okB a.L a.T a.W a.H a.rows = true
  rb : okB b.L b.T b.W b.H b.rows = true
  ua : Words a.rows
  ub : Words b.rows
  wd : orW a b ≤ 64
  hg : orH a b ≤ 64
theorem Two.symm {a b : Bm} (h : Two a b) : Two b a := ⟨h.rb, h.ra, h.ub, h.ua, by have := h.wd; unfold orW orL at *; omega, by have := h.hg; unfold orH orT at *; omega⟩
theorem or_len (a b : Bm) : (orRows a b).length = (orH a b).toNat := by rw [orRows_stage, orStage_length]
theorem or_row {a b : Bm} (h : Two a b) (i : Nat) (hi : i < (orH a b).toNat) : (orRows a b).getD i 0 = ((rowV a (orT a b) (orL a b) i ||| rowV b (orT a b) (orL a b) i : Nat) : Int) := by
  obtain ⟨_, _, a3, _, _⟩ := ok_facts h.ra
  obtain ⟨_, _, b3, _, _⟩ := ok_facts h.rb
  have hz : (List.replicate (orH a b).toNat (0 : Int)).getD i 0 = 0 := by simp [List.getD_eq_getElem?_getD, hi]
  have e1 := orInto_at (a.T - orT a b).toNat (a.L - orL a b).toNat a.rows (List.replicate (orH a b).toNat 0) i a.rows.length (by rw [List.length_replicate]; unfold orH orT; omega)
  rw [hz] at e1
  have e2 := orInto_at (b.T - orT a b).toNat (b.L - orL a b).toNat b.rows (orPut a b a (List.replicate (orH a b).toNat 0)) i b.rows.length (by unfold orPut; rw [orInto_length, List.length_replicate]; unfold orH orT; omega)
  unfold orRows
  have e3 : orPut a b b (orPut a b a (List.replicate (orH a b).toNat 0)) = orInto (b.T - orT a b).toNat (b.L - orL a b).toNat b.rows b.rows.length (orPut a b a (List.replicate (orH a b).toNat 0)) := rfl
  have e4 : orPut a b a (List.replicate (orH a b).toNat 0) = orInto (a.T - orT a b).toNat (a.L - orL a b).toNat a.rows a.rows.length (List.replicate (orH a b).toNat 0) := rfl
  rw [e3, e2, e4, e1]
  unfold rowV
  by_cases c1 : (a.T - orT a b).toNat ≤ i ∧ i < (a.T - orT a b).toNat + a.rows.length
  · rw [if_pos c1, if_pos c1, orAt_zero]
    by_cases c2 : (b.T - orT a b).toNat ≤ i ∧ i < (b.T - orT a b).toNat + b.rows.length
    · rw [if_pos c2, if_pos c2, orAt_nat]
    · rw [if_neg c2, if_neg c2, Nat.or_zero]
  · rw [if_neg c1, if_neg c1]
    by_cases c2 : (b.T - orT a b).toNat ≤ i ∧ i < (b.T - orT a b).toNat + b.rows.length
    · rw [if_pos c2, if_pos c2, orAt_zero, Nat.zero_or]
    · rw [if_neg c2, if_neg c2]; rfl
def orBm (a b : Bm) : Bm := ⟨orL a b, orT a b, orW a b, orH a b, orRows a b⟩
theorem orB_two {a b : Bm} (h : Two a b) : orB a b = (orBm a b, 0) := by
  obtain ⟨a1, _, _, _, _⟩ := ok_facts h.ra
  obtain ⟨b1, _, _, _, _⟩ := ok_facts h.rb
  have h1 := h.wd
  have h2 := h.hg
  unfold orB
  rw [ok_right h.ra, ok_right h.rb, if_neg (by simp), if_neg (by omega), if_neg (by omega), if_neg (by omega)]
  rfl
theorem rowV_lt {a b : Bm} (h : Two a b) (i : Nat) : rowV a (orT a b) (orL a b) i < 2 ^ (orW a b).toNat := by
  obtain ⟨a1, _, _, _, _⟩ := ok_facts h.ra
  unfold rowV
  split
  · rename_i hc
    have hm := ok_row h.ra h.ua _ (getD_mem (l := a.rows) (k := i - (a.T - orT a b).toNat) (by omega))
    generalize (a.rows.getD (i - (a.T - orT a b).toNat) 0).toNat = r at hm
    have h1 : r * 2 ^ (a.L - orL a b).toNat < 2 ^ a.W.toNat * 2 ^ (a.L - orL a b).toNat := Nat.mul_lt_mul_of_pos_right hm (Nat.two_pow_pos _)
    rw [← Nat.pow_add] at h1
    exact Nat.lt_of_lt_of_le h1 (Nat.pow_le_pow_right (by decide) (by unfold orW orL; omega))
  · exact Nat.two_pow_pos _
theorem or_ok {a b : Bm} (h : Two a b) : okB (orBm a b).L (orBm a b).T (orBm a b).W (orBm a b).H (orBm a b).rows = true ∧ Words (orBm a b).rows := by
  obtain ⟨a1, a2, a3, a4, a5⟩ := ok_facts h.ra
  obtain ⟨b1, b2, b3, b4, b5⟩ := ok_facts h.rb
  have h1 := h.wd
  have h2 := h.hg
  have hl := or_len a b
  have hrow : ∀ r ∈ orRows a b, 0 ≤ r ∧ r.toNat < 2 ^ (orW a b).toNat := by
    intro r hr
    obtain ⟨k, hk, rfl⟩ := mem_getD hr
    rw [or_row h k (by omega)]
    refine ⟨Int.natCast_nonneg _, ?_⟩
    rw [Int.toNat_natCast]
    have e := rowV_lt h.symm k
    rw [orT_comm b a, orL_comm b a, orW_comm b a] at e
    exact Nat.or_lt_two_pow (rowV_lt h k) e
  have hW : Words (orRows a b) := by
    intro r hr
    have h3 := hrow r hr
    have h4 : 2 ^ (orW a b).toNat ≤ 2 ^ 64 := Nat.pow_le_pow_right (by decide) (by omega)
    unfold u64
    omega
  refine ⟨okB_mk ?_ ?_ ?_ ?_ ?_ hW fun r hr => (hrow r hr).2, hW⟩
  · show 1 ≤ orW a b ∧ orW a b ≤ 64
    refine ⟨by unfold orW orL; omega, h1⟩
  · show 1 ≤ orH a b ∧ orH a b ≤ 64
    refine ⟨by unfold orH orT; omega, h2⟩
  · show ((orRows a b).length : Int) = orH a b
    rw [hl]
    have : 1 ≤ orH a b := by unfold orH orT; omega
    omega
  · show -10000 ≤ orL a b ∧ orL a b ≤ 10001 - orW a b
    unfold orW orL; omega
  · show -10000 ≤ orT a b ∧ orT a b ≤ 10001 - orH a b
    unfold orH orT; omega
theorem or_comm {a b : Bm} (h : Two a b) : orBm a b = orBm b a := by
  have e1 : orL a b = orL b a := by unfold orL; omega
  have e2 : orT a b = orT b a := by unfold orT; omega
  have e3 : orW a b = orW b a := by unfold orW; rw [e1]; omega
  have e4 : orH a b = orH b a := by unfold orH; rw [e2]; omega
  unfold orBm
  rw [e1, e2, e3, e4]
  congr 1
  apply List.ext_getElem
  · rw [or_len, or_len, e4]
  · intro i h1 h2
    have q1 := or_row h i (by rw [or_len] at h1; exact h1)
    have q2 := or_row h.symm i (by rw [or_len] at h2; exact h2)
    rw [List.getD_eq_getElem?_getD, List.getElem?_eq_getElem h1] at q1
    rw [List.getD_eq_getElem?_getD, List.getElem?_eq_getElem h2] at q2
    have q1' : (orRows a b)[i] = _ := q1
    have q2' : (orRows b a)[i] = _ := q2
    rw [q1', q2', orT_comm b a, orL_comm b a, Nat.or_comm]
theorem rowV_bit {a b : Bm} (h : Two a b) (x y : Int) (hx : orL a b ≤ x) (hy : orT a b ≤ y) : (rowV a (orT a b) (orL a b) (y - orT a b).toNat).testBit (x - orL a b).toNat = a.pix x y := by
  obtain ⟨a1, a2, a3, a4, a5⟩ := ok_facts h.ra
  have hL : orL a b ≤ a.L := by unfold orL; omega
  have hT : orT a b ≤ a.T := by unfold orT; omega
  unfold rowV Bm.pix
  by_cases hin : a.T ≤ y ∧ y < a.T + a.H
  · rw [if_pos (by omega), Nat.testBit_mul_two_pow, show (y - orT a b).toNat - (a.T - orT a b).toNat = (y - a.T).toNat by omega]
    by_cases hx1 : a.L ≤ x
    · rw [decide_eq_true (show (x - orL a b).toNat ≥ (a.L - orL a b).toNat by omega), Bool.true_and, show (x - orL a b).toNat - (a.L - orL a b).toNat = (x - a.L).toNat by omega]
      by_cases hx2 : x < a.L + a.W
      · rw [decide_eq_true ⟨hx1, hx2, hin.1, hin.2⟩, Bool.true_and]
      · rw [decide_eq_false (by omega), Bool.false_and]
        have hm := ok_row h.ra h.ua _ (getD_mem (l := a.rows) (k := (y - a.T).toNat) (by omega))
        exact Nat.testBit_lt_two_pow (Nat.lt_of_lt_of_le hm (Nat.pow_le_pow_right (by decide) (by omega)))
    · rw [decide_eq_false (show ¬ (x - orL a b).toNat ≥ (a.L - orL a b).toNat by omega), Bool.false_and, decide_eq_false (by omega), Bool.false_and]
  · rw [if_neg (by omega), decide_eq_false (by omega), Bool.false_and, Nat.zero_testBit]
theorem pix_in {a : Bm} {x y : Int} (h : a.pix x y = true) : a.L ≤ x ∧ x < a.L + a.W ∧ a.T ≤ y ∧ y < a.T + a.H := by
  unfold Bm.pix at h
  rw [Bool.and_eq_true] at h
  exact of_decide_eq_true h.1
theorem or_pix {a b : Bm} (h : Two a b) (x y : Int) : (orBm a b).pix x y = (a.pix x y || b.pix x y) := by
  obtain ⟨a1, a2, a3, a4, a5⟩ := ok_facts h.ra
  obtain ⟨b1, b2, b3, b4, b5⟩ := ok_facts h.rb
  by_cases hin : orL a b ≤ x ∧ x < orL a b + orW a b ∧ orT a b ≤ y ∧ y < orT a b + orH a b
  · have e : (orBm a b).pix x y = ((orRows a b).getD (y - orT a b).toNat 0).toNat.testBit (x - orL a b).toNat := by
      unfold Bm.pix
      show (decide (orL a b ≤ x ∧ x < orL a b + orW a b ∧ orT a b ≤ y ∧ y < orT a b + orH a b) && _) = _
      rw [decide_eq_true hin, Bool.true_and]; rfl
    have e2 := rowV_bit h.symm x y (by unfold orL at *; omega) (by unfold orT at *; omega)
    rw [orT_comm b a, orL_comm b a] at e2
    rw [e, or_row h _ (by omega), Int.toNat_natCast, Nat.testBit_or, rowV_bit h x y hin.1 hin.2.2.1, e2]
  · have e : (orBm a b).pix x y = false := by
      unfold Bm.pix
      show (decide (orL a b ≤ x ∧ x < orL a b + orW a b ∧ orT a b ≤ y ∧ y < orT a b + orH a b) && _) = _
      rw [decide_eq_false hin, Bool.false_and]
    have ea : a.pix x y = false := by
      cases hp : a.pix x y with
      | false => rfl
      | true => have := pix_in hp; exact absurd (by unfold orL orT orW orH orL orT; omega) hin
    have eb : b.pix x y = false := by
      cases hp : b.pix x y with
      | false => rfl
      | true => have := pix_in hp; exact absurd (by unfold orL orT orW orH orL orT; omega) hin
    rw [e, ea, eb]; rfl
theorem or_self {a : Bm} (h : Two a a) : orBm a a = a := by
  obtain ⟨a1, a2, a3, a4, a5⟩ := ok_facts h.ra
  have e1 : orL a a = a.L := by unfold orL; omega
  have e2 : orT a a = a.T := by unfold orT; omega
  have e3 : orW a a = a.W := by unfold orW; rw [e1]; omega
  have e4 : orH a a = a.H := by unfold orH; rw [e2]; omega
  have hr : orRows a a = a.rows := by
    apply List.ext_getElem
    · rw [or_len, e4]; omega
    · intro i h1 h2
      have q1 := or_row h i (by rw [or_len] at h1; exact h1)
      rw [List.getD_eq_getElem?_getD, List.getElem?_eq_getElem h1] at q1
      have q1' : (orRows a a)[i] = _ := q1
      rw [q1', Nat.or_self]
      unfold rowV
      rw [e1, e2, Int.sub_self, Int.sub_self]
      rw [if_pos (by simp; exact h2)]
      have hu := h.ua a.rows[i] (List.getElem_mem h2)
      unfold u64 at hu
      simp [h2]
      omega
  obtain ⟨L, T, W, H, rows⟩ := a
  unfold orBm
  rw [e1, e2, e3, e4, hr]
/-! any two bitmaps that are drawn -/
/-- empty, or right and small -/
def Sm (b : Bm) : Prop := b = Bm.zero ∨ (okB b.L b.T b.W b.H b.rows = true ∧ Words b.rows ∧ (-19 ≤ b.L ∧ b.L ≤ 19) ∧ (-19 ≤ b.T ∧ b.T ≤ 19) ∧ b.W ≤ 24 ∧ b.H ≤ 20)
theorem Sm.right {b : Bm} (h : Sm b) : b.right = true ∧ Words b.rows := by
  rcases h with rfl | h
  · exact ⟨by decide +kernel, fun r hr => by cases hr⟩
  · exact ⟨ok_right h.1, h.2.1⟩
theorem Sm.two {a b : Bm} (ha : Sm a) (hb : Sm b) (h1 : a ≠ Bm.zero) (h2 : b ≠ Bm.zero) : Two a b := by
  obtain ⟨ra, ua, la, ta, wa, ha⟩ := ha.resolve_left h1
  obtain ⟨rb, ub, lb, tb, wb, hb⟩ := hb.resolve_left h2
  exact ⟨ra, rb, ua, ub, by unfold orW orL; omega, by unfold orH orT; omega⟩
theorem Sm.W {b : Bm} (h : Sm b) (h0 : b ≠ Bm.zero) : b.W ≠ 0 := by
  obtain ⟨r, _⟩ := h.resolve_left h0
  have := (ok_facts r).1
  omega
/-- all that the law asks of two small bitmaps -/
theorem joins {a b : Bm} (ha : Sm a) (hb : Sm b) : ∃ c, orB a b = (c, 0) ∧ orB b a = (c, 0) ∧ orB a a = (a, 0) ∧ c.right = true ∧ Words c.rows ∧ c.rows.length ≤ 64 ∧ ∀ x y, getB c x y = (getB a x y || getB b x y) ∧ getB (trimB c) x y = getB c x y := by
  have ra := ha.right
  have rb := hb.right
  have tr : ∀ c : Bm, c.right = true → Words c.rows → ∀ x y, getB (trimB c) x y = getB c x y := fun c h1 h2 x y => by
    rw [getB_pix (trim_right h2).1, getB_pix h1, trim_pix h1 h2]
  have len : ∀ c : Bm, c.right = true → c.rows.length ≤ 64 := fun c h => by
    have := right_bounds h
    omega
  have zz : orB Bm.zero Bm.zero = (Bm.zero, 0) := by kernel_rfl
  have zr : ∀ c : Bm, c.right = true → orB Bm.zero c = (c, 0) := fun c h => by
    unfold orB
    rw [h, show Bm.zero.right = true by decide +kernel, if_neg (by simp), if_pos (show Bm.zero.W = 0 from rfl)]
  have rz : ∀ c : Bm, c.right = true → c.W ≠ 0 → orB c Bm.zero = (c, 0) := fun c h h0 => by
    unfold orB
    rw [h, show Bm.zero.right = true by decide +kernel, if_neg (by simp), if_neg h0, if_pos (show Bm.zero.W = 0 from rfl)]
  have gz : ∀ x y, getB Bm.zero x y = false := fun x y => by rw [getB_pix (by decide +kernel), zero_pix]
  by_cases h1 : a = Bm.zero
  · subst h1
    refine ⟨b, zr b rb.1, ?_, zz, rb.1, rb.2, len b rb.1, fun x y => ⟨by rw [gz, Bool.false_or], tr b rb.1 rb.2 x y⟩⟩
    by_cases h2 : b = Bm.zero
    · subst h2; exact zz
    · exact rz b rb.1 (hb.W h2)
  · have aa := ha.two ha h1 h1
    have e0 : orB a a = (a, 0) := by rw [orB_two aa, or_self aa]
    by_cases h2 : b = Bm.zero
    · subst h2
      exact ⟨a, rz a ra.1 (ha.W h1), zr a ra.1, e0, ra.1, ra.2, len a ra.1, fun x y => ⟨by rw [gz, Bool.or_false], tr a ra.1 ra.2 x y⟩⟩
    · have ab := ha.two hb h1 h2
      have ok := or_ok ab
      refine ⟨orBm a b, orB_two ab, by rw [orB_two ab.symm, or_comm ab], e0, ok_right ok.1, ok.2, len _ (ok_right ok.1), fun x y => ⟨?_, tr _ (ok_right ok.1) ok.2 x y⟩⟩
      rw [getB_pix (ok_right ok.1), getB_pix ra.1, getB_pix rb.1, or_pix ab]
end Go.Proofs.YtleljodcdbhifaaDoor
