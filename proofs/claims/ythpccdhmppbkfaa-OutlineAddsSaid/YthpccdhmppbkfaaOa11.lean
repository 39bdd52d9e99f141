/- OAp, OAd, OAdW: merged by wip/prune.py. -/
import Derived.Test.YthpccdhmppbkfaaOa9
/- plain laws: what deltas add to the numbers of an outline. -/
set_option linter.unusedVariables false
set_option linter.unusedSimpArgs false
namespace Go.Proofs.Ythpccdhmppbkfaa
open Go.RowKit Go.Shelf Go.Proofs.YthpccdhmppbkfaaW.PrintWords Go.Proofs.YthpccdhmppbkfaaW.PrintLast Go.Proofs.YthpccdhmppbkfaaW.PrintMore
theorem gcd_split {N D : Int} (hN : 0 ≤ N) (hD : 1 ≤ D) :
  ∃ g, 1 ≤ g ∧ N = g * (N / gcdI N D) ∧ D = g * (D / gcdI N D) ∧ 0 ≤ N / gcdI N D ∧ 1 ≤ D / gcdI N D ∧ Nat.gcd (N / gcdI N D).toNat (D / gcdI N D).toNat = 1 := by
 obtain ⟨a, rfl⟩ := Int.eq_ofNat_of_zero_le hN
 obtain ⟨b, rfl⟩ := Int.eq_ofNat_of_zero_le (show 0 ≤ D by omega)
 have hg : gcdI a b = ((Nat.gcd a b : Nat) : Int) := rfl
 have h0 : 0 < Nat.gcd a b := Nat.gcd_pos_of_pos_right _ (by omega)
 rw [hg]
 have x1 : (a : Int) / ((Nat.gcd a b : Nat) : Int) = ((a / Nat.gcd a b : Nat) : Int) := rfl
 have x2 : (b : Int) / ((Nat.gcd a b : Nat) : Int) = ((b / Nat.gcd a b : Nat) : Int) := rfl
 have y1 := Nat.mul_div_cancel' (Nat.gcd_dvd_left a b)
 have y2 := Nat.mul_div_cancel' (Nat.gcd_dvd_right a b)
 have y3 : 0 < b / Nat.gcd a b := Nat.div_pos (Nat.le_of_dvd (by omega) (Nat.gcd_dvd_right _ _)) h0
 rw [x1, x2]
 refine ⟨((Nat.gcd a b : Nat) : Int), by omega, ?_, ?_, Int.natCast_nonneg _, by omega, ?_⟩
 ·rw [← Int.natCast_mul, y1]
 ·rw [← Int.natCast_mul, y2]
 ·simp only [Int.toNat_natCast]
  rw [Nat.gcd_div (Nat.gcd_dvd_left a b) (Nat.gcd_dvd_right a b), Nat.div_self h0]
theorem red_right {N D : Int} (hN : 0 ≤ N) (hD : 1 ≤ D) (h : N ≤ D) (hm : D ≤ 262144) : rightB (N / gcdI N D) (D / gcdI N D) = true ∧ D / gcdI N D ≤ D := by
 obtain ⟨g, h1, h2, h3, h4, h5, h6⟩ := gcd_split hN hD
 have hg : 0 ≤ gcdI N D := by unfold gcdI; omega
 have h7 : D / gcdI N D ≤ D := Int.ediv_le_self _ (by omega)
 exact ⟨rightB_true.2 ⟨h5, by omega, h4, Int.ediv_le_ediv (by
  rcases Int.lt_or_le 0 (gcdI N D) with h8 | h8
  ·exact h8
  ·have h9 : gcdI N D = 0 := by omega
   rw [h9, Int.ediv_zero] at h5; omega) h, h6⟩, h7⟩
theorem tent_cases {t : I3} (h : tentB t = true) : -64 ≤ t.a ∧ t.a ≤ t.b ∧ t.b ≤ t.c ∧ t.c ≤ 64 ∧ (t.b = 0 ∨ 0 ≤ t.a ∨ t.c ≤ 0) := by
 unfold tentB coordB at h
 simpa using (by simp only [Bool.and_eq_true, Bool.or_eq_true, decide_eq_true_eq] at h; omega : -64 ≤ t.a ∧ t.a ≤ t.b ∧ t.b ≤ t.c ∧ t.c ≤ 64 ∧ (t.b = 0 ∨ 0 ≤ t.a ∨ t.c ≤ 0))
theorem st_right {t : I3} {n : Int} (h : tentB t = true) (hn : -64 ≤ n ∧ n ≤ 64) : rightB (strN t n) (strD t n) = true ∧ strD t n ≤ 64 := by
 have h1 := tent_cases h
 have key : 0 ≤ stN t n ∧ 1 ≤ stD t n ∧ stN t n ≤ stD t n ∧ stD t n ≤ 64 := by
  unfold stN stD
  split
  ·omega
  ·split
   ·omega
   ·split <;> omega
 have h2 := red_right key.1 key.2.1 key.2.2.1 (by omega)
 exact ⟨h2.1, by have := h2.2; unfold strD; show stD t n / gcdI (stN t n) (stD t n) ≤ 64; omega⟩
theorem times_is {an ad bn bd : Int} (h1 : rightB an ad = true) (h2 : rightB bn bd = true) (hm : ad * bd ≤ 262144) :
  rightB (timesN an ad bn bd) (timesD an ad bn bd) = true ∧ timesD an ad bn bd ≤ ad * bd := by
 obtain ⟨a1, _, a2, a3, _⟩ := rightB_true.1 h1
 obtain ⟨b1, _, b2, b3, _⟩ := rightB_true.1 h2
 have p1 : 0 ≤ an * bn := Int.mul_nonneg a2 b2
 have p2 : 1 ≤ ad * bd := by have := Int.mul_le_mul a1 b1 (by omega) (by omega); omega
 have p3 : an * bn ≤ ad * bd := Int.mul_le_mul a3 b3 b2 (by omega)
 have h3 := red_right p1 p2 p3 hm
 have hok : timesOk an ad bn bd = true := by
  unfold timesOk
  rw [h1, h2]
  have := h3.2
  simp only [Bool.and_self, Bool.true_and, decide_eq_true_eq]
  omega
 unfold timesN timesD
 rw [if_pos hok, if_pos hok]
 exact h3
theorem scP_right : ∀ (l : List (I3 × Int)) (s : I2) (m : Int), rightB s.a s.b = true → s.b ≤ m → m * 64 ^ l.length ≤ 262144 → 1 ≤ m → (∀ x ∈ l, tentB x.1 = true ∧ -64 ≤ x.2 ∧ x.2 ≤ 64) → rightB (l.foldl scStep s).a (l.foldl scStep s).b = true
 | [], s, m, h, _, _, _, _ => h
 | x :: l, s, m, h, hm, hp, h1, hx => by
  have hx0 := hx x (List.mem_cons_self ..)
  have h2 := st_right hx0.1 hx0.2
  have hD := (rightB_true.1 h2.1).1
  have hs := (rightB_true.1 h).1
  have h3 : s.b * strD x.1 x.2 ≤ m * 64 := Int.mul_le_mul hm h2.2 (by omega) (by omega)
  rw [List.length_cons, Int.pow_succ] at hp
  have hq : (1 : Int) ≤ 64 ^ l.length := Int.le_of_lt_add_one (by have := Int.pow_pos (n := 64) (m := l.length) (by decide); omega)
  have h4 : m * 64 ≤ 262144 := by
   have h6 : m * 64 * 1 ≤ m * 64 * 64 ^ l.length := Int.mul_le_mul_of_nonneg_left hq (by omega)
   have h7 : m * (64 ^ l.length * 64) = m * 64 * 64 ^ l.length := by rw [Int.mul_comm (64 ^ l.length) 64, Int.mul_assoc]
   omega
  have h5 := times_is h h2.1 (by omega)
  rw [List.foldl_cons]
  refine scP_right l _ (m * 64) h5.1 (Int.le_trans h5.2 h3) ?_ (by omega) (fun y hy => hx y (List.mem_cons_of_mem _ hy))
  rw [Int.mul_assoc, Int.mul_comm 64]
  exact hp
theorem scl_right (r : List I3) (ns : List Int) : rightB (sclB r ns).a (sclB r ns).b = true := by
 unfold sclB
 split
 ·rename_i h
  obtain ⟨h1, h2⟩ := h
  unfold regB at h1
  unfold coordsB at h2
  simp only [Bool.and_eq_true, decide_eq_true_eq, Bool.not_eq_true', List.any_eq_false] at h1 h2
  unfold scP
  refine scP_right _ ⟨1, 1⟩ 1 (by decide) (by decide) ?_ (by decide) (fun x hx => ?_)
  ·have hl : (r.zip ns).length ≤ 3 := by rw [List.length_zip]; omega
   generalize (r.zip ns).length = n at hl
   match n, hl with
   | 0, _ => decide
   | 1, _ => decide
   | 2, _ => decide
   | 3, _ => decide
  ·have hz := List.of_mem_zip (a := x.1) (b := x.2) hx
   have t1 := h1.2.2.2 x.1 hz.1
   have t2 := h2.2 x.2 hz.2
   unfold coordB at t2
   exact ⟨by simpa using t1, by simpa using t2⟩
 ·decide
theorem sumB_map (bv : Dl → Int) (n : Int) (dl : List Dl) (s : Dl → I2) : sumB bv n dl (dl.map s) = 64 * n + (dl.map fun d => partQ (bv d) (s d).a (s d).b).sum := by
 unfold sumB
 have h2 : dl.zip (dl.map s) = dl.map fun d => (d, s d) := by
  induction dl with
  | nil => rfl
  | cons a l ih => rw [List.map_cons, List.zip_cons_cons, ih, List.map_cons]
 rw [h2, List.map_map]
 rfl
theorem sumB_congr (f g : Dl → Int) (n : Int) (dl : List Dl) (s : Dl → I2) (h : ∀ d ∈ dl, f d = g d) : sumB f n dl (dl.map s) = sumB g n dl (dl.map s) := by
 rw [sumB_map, sumB_map]
 congr 2
 exact List.map_congr_left fun d hd => by rw [h d hd]
theorem partQ_0 (a d : Int) : partQ a 0 d = 0 := by
 unfold partQ
 split
 ·rename_i h
  unfold partOk at h
  rw [Bool.and_eq_true] at h
  have h1 := (rightB_true.1 h.2).1
  rw [Int.mul_zero]
  unfold rnd
  rw [Int.zero_emod, Int.zero_ediv, if_neg (by omega)]
 ·rfl
/-- deltas whose region has the scalar 0 play no part -/
theorem sumB_filter (bv : Dl → Int) (n : Int) (dl : List Dl) (s : Dl → I2) : sumB bv n (dl.filter fun d => decide ((s d).a ≠ 0)) ((dl.filter fun d => decide ((s d).a ≠ 0)).map s) = sumB bv n dl (dl.map s) := by
 rw [sumB_map, sumB_map]
 congr 1
 induction dl with
 | nil => rfl
 | cons a l ih =>
  by_cases h : (s a).a = 0
  ·rw [List.filter_cons_of_neg (by simp [h]), ih, List.map_cons, List.sum_cons, h, partQ_0, Int.zero_add]
  ·rw [List.filter_cons_of_pos (by simp [h]), List.map_cons, List.sum_cons, ih, List.map_cons, List.sum_cons]
/-- what the outline has depends on the deltas' sums alone -/
theorem at_sums (g : Gl) (dl : List Dl) (rs : List (List I3)) (ns : List Int) (h : ∀ (bv : Dl → Int) (n : Int), sumB bv n dl (dl.map fun d => sclB (rs.getD d.region.toNat []) ns) = sumB bv n g.dl (atS g rs ns)) :
  atC ⟨g.ct, g.an, g.hang, g.adv, dl, g.pr⟩ rs ns = atC g rs ns ∧ atA ⟨g.ct, g.an, g.hang, g.adv, dl, g.pr⟩ rs ns = atA g rs ns ∧ atX ⟨g.ct, g.an, g.hang, g.adv, dl, g.pr⟩ rs ns = atX g rs ns ∧ atY ⟨g.ct, g.an, g.hang, g.adv, dl, g.pr⟩ rs ns = atY g rs ns ∧ atV ⟨g.ct, g.an, g.hang, g.adv, dl, g.pr⟩ rs ns = atV g rs ns := by
 have hP : plP dl (dl.map fun d => sclB (rs.getD d.region.toNat []) ns) = plP g.dl (atS g rs ns) := by
  funext k p
  unfold plP
  rw [h, h]
 have hA : plA dl (dl.map fun d => sclB (rs.getD d.region.toNat []) ns) = plA g.dl (atS g rs ns) := by
  funext k p
  unfold plA
  rw [h, h]
 refine ⟨?_, ?_, h _ _, h _ _, h _ _⟩
 ·show plCs dl (dl.map fun d => sclB (rs.getD d.region.toNat []) ns) g.ct g.ct.length = plCs g.dl (atS g rs ns) g.ct g.ct.length
  unfold plCs plC plL
  rw [hP]
 ·show plAs dl (dl.map fun d => sclB (rs.getD d.region.toNat []) ns) (ptsN g.ct) g.an g.an.length = plAs g.dl (atS g rs ns) (ptsN g.ct) g.an g.an.length
  unfold plAs
  rw [hA]
/-- deltas that are left out leave a glyph right -/
theorem dlB_low (n : Nat) (R hc : Int) : ∀ (l : List Dl) (p q : Int), dlB n R hc p l = true → q ≤ p → dlB n R hc q l = true
 | [], _, _, _, _ => rfl
 | a :: l, p, q, h, hq => by
  have h1 : (dOk n R hc p a && dlB n R hc a.region l) = true := h
  show (dOk n R hc q a && dlB n R hc a.region l) = true
  rw [Bool.and_eq_true] at h1 ⊢
  refine ⟨?_, h1.2⟩
  have h2 := h1.1
  unfold dOk at h2 ⊢
  simp only [Bool.and_eq_true, decide_eq_true_eq] at h2 ⊢
  exact ⟨h2.1, h2.2.1, by omega, h2.2.2.2⟩
theorem dlB_filter (n : Nat) (R hc : Int) (f : Dl → Bool) : ∀ (l : List Dl) (p : Int), dlB n R hc p l = true → dlB n R hc p (l.filter f) = true
 | [], _, _ => rfl
 | a :: l, p, h => by
  have h1 : (dOk n R hc p a && dlB n R hc a.region l) = true := h
  rw [Bool.and_eq_true] at h1
  have h3 := dlB_filter n R hc f l a.region h1.2
  by_cases hf : f a = true
  ·rw [List.filter_cons_of_pos hf]
   show (dOk n R hc p a && dlB n R hc a.region (l.filter f)) = true
   rw [h1.1, h3]
   rfl
  ·rw [List.filter_cons_of_neg hf]
   refine dlB_low n R hc _ a.region p h3 ?_
   have h2 := h1.1
   unfold dOk at h2
   simp only [Bool.and_eq_true, decide_eq_true_eq] at h2
   omega
theorem chk_dls {g : Gl} {R : Int} (h : g.chk R = 0) (dl : List Dl) (hd : g.dlOk R = true → dlB g.pts R g.hang.a (-1) dl = true) : Gl.chk ⟨g.ct, g.an, g.hang, g.adv, dl, g.pr⟩ R = 0 := by
 have h0 := hd (chk_dl g R h)
 unfold Gl.chk Gl.chk2 Gl.chk3 Gl.chk4 Gl.chk5 Gl.chk6 at h ⊢
 dsimp only at h ⊢
 split at h; · cases h
 rename_i k1
 rw [if_neg k1]
 split at h; · cases h
 rename_i k2
 rw [if_neg (show ¬ (6 < g.ct.length ∨ 6 < g.an.length ∨ 40 < Gl.pts ⟨g.ct, g.an, g.hang, g.adv, dl, g.pr⟩) from k2)]
 split at h; · cases h
 rename_i k3
 rw [if_neg k3]
 split at h; · cases h
 rename_i k4
 rw [if_neg k4]
 split at h; · cases h
 rename_i k5
 rw [if_neg k5]
 rw [if_neg (by rw [show Gl.dlOk ⟨g.ct, g.an, g.hang, g.adv, dl, g.pr⟩ R = true from h0]; decide)]
theorem md_dls {g : Gl} {R : Nat} (h : MdOk R g) (f : Dl → Bool) : MdOk R ⟨g.ct, g.an, g.hang, g.adv, g.dl.filter f, g.pr⟩ :=
 ⟨chk_dls h.chk _ (fun h1 => dlB_filter _ _ _ f _ _ h1), h.pr, Nat.le_trans (List.length_filter_le _ _) h.nd, h.nc⟩
/-- a list changed by a function of place and number -/
def ixm (f : Nat → Int → Int) : Nat → List Int → List Int
 | _, [] => []
 | n, a :: l => f n a :: ixm f (n + 1) l
theorem ixm_append (f : Nat → Int → Int) : ∀ (l m : List Int) (n : Nat), ixm f n (l ++ m) = ixm f n l ++ ixm f (n + l.length) m
 | [], _, _ => rfl
 | a :: l, m, n => by
  show f n a :: ixm f (n + 1) (l ++ m) = f n a :: (ixm f (n + 1) l ++ ixm f (n + (l.length + 1)) m)
  rw [ixm_append f l m (n + 1), show n + 1 + l.length = n + (l.length + 1) by omega]
theorem ixm_getD (f : Nat → Int → Int) : ∀ (l : List Int) (n k : Nat), k < l.length → (ixm f n l).getD k 0 = f (n + k) (l.getD k 0)
 | [], _, _, h => absurd h (Nat.not_lt_zero _)
 | a :: l, n, 0, _ => rfl
 | a :: l, n, k + 1, h => by
  have h1 := ixm_getD f l (n + 1) k (by simp only [List.length_cons] at h; omega)
  show (ixm f (n + 1) l).getD k 0 = f (n + (k + 1)) (l.getD k 0)
  rw [h1, show n + 1 + k = n + (k + 1) by omega]
/-- what a delta says of number k -/
def byK (k : Nat) (d : Dl) : Int := if k < 2 * d.moves.length then (if k % 2 = 0 then (d.moves.getD (k / 2) zI2).a else (d.moves.getD (k / 2) zI2).b) else d.adv
theorem byK_bd {g : Gl} {R : Nat} (h : MdOk R g) (k : Nat) : ∀ d ∈ g.dl, -64 ≤ byK k d ∧ byK k d ≤ 64 := by
 intro d hd
 have h1 := md_dl h d hd
 unfold byK
 split
 ·split
  ·exact (h1.2 _).1
  ·exact (h1.2 _).2
 ·exact h1.1
theorem adds_num {g : Gl} {R : Nat} (hm : MdOk R g) (rs : List (List I3)) (ns : List Int) :
  numL (atC g rs ns) (atA g rs ns) (atX g rs ns) (atY g rs ns) (atV g rs ns) = ixm (fun k n => sumB (byK k) n g.dl (atS g rs ns)) 0 (numL g.ct g.an g.hang.b g.hang.c g.adv) := by
 have hd := (chk_good g _ hm.chk).dl
 have hb0 : ∀ (k : Nat) (n : Int), k < g.pts → sumB (fun d => (d.moves.getD k zI2).a) n g.dl (atS g rs ns) = sumB (byK (2 * k)) n g.dl (atS g rs ns) := fun k n hk => by
  refine sumB_congr _ _ n g.dl _ fun d hd' => ?_
  unfold byK
  rw [if_pos (by rw [(hd d hd').2.2]; omega), if_pos (by omega), show 2 * k / 2 = k by omega]
 have hb1 : ∀ (k : Nat) (n : Int), k < g.pts → sumB (fun d => (d.moves.getD k zI2).b) n g.dl (atS g rs ns) = sumB (byK (2 * k + 1)) n g.dl (atS g rs ns) := fun k n hk => by
  refine sumB_congr _ _ n g.dl _ fun d hd' => ?_
  unfold byK
  rw [if_pos (by rw [(hd d hd').2.2]; omega), if_neg (by omega), show (2 * k + 1) / 2 = k by omega]
 have hpt : g.pts = g.an.length + 1 + ptsN g.ct := rfl
 obtain ⟨F, hF⟩ : ∃ F : Nat → Int → Int, (fun (k : Nat) (n : Int) => sumB (byK k) n g.dl (atS g rs ns)) = F := ⟨_, rfl⟩
 have hF' : ∀ k n, sumB (byK k) n g.dl (atS g rs ns) = F k n := fun k n => by rw [← hF]
 have hP : ∀ (n : Nat) (c : List Pt), n + c.length ≤ g.pts → ∀ k, k ≤ c.length → numP (plL g.dl (atS g rs ns) (spK n c k)) = ixm F (2 * n) (numP (c.take k)) := by
  intro n c hc k
  induction k with
  | zero => intro _; rfl
  | succ k ih =>
   intro hk
   have h1 := ih (by omega)
   have h2 : spK n c (k + 1) = spK n c k ++ [(n + k, c.getD k zPt)] := by simp [spK, List.range_succ]
   rw [h2, plL_snoc, take_at c k (by omega) zPt]
   obtain ⟨x, y, z⟩ := c.getD k zPt
   have h3 : plP g.dl (atS g rs ns) (n + k) ⟨x, y, z⟩ = ⟨F (2 * (n + k)) x, F (2 * (n + k) + 1) y, z⟩ := by
    unfold plP
    rw [hb0 _ _ (by omega), hb1 _ _ (by omega), hF', hF']
   rw [h3, numP_snoc, numP_snoc, ixm_append, h1, numP_len, List.length_take, Nat.min_eq_left (by omega), show 2 * n + 2 * k = 2 * (n + k) by omega]
   rfl
 have hC : ∀ k, k ≤ g.ct.length → numC (plCs g.dl (atS g rs ns) g.ct k) = ixm F 0 (numC (g.ct.take k)) := by
  intro k
  induction k with
  | zero => intro _; rfl
  | succ k ih =>
   intro hk
   have h1 := ih (by omega)
   have h4 := ptsN_take g.ct k (by omega)
   have h5 := ptsN_le g.ct (k + 1)
   rw [plCs_succ, take_at g.ct k (by omega) [], numC_snoc, numC_snoc, ixm_append, h1, numC_len, Nat.zero_add]
   congr 1
   unfold plC
   rw [hP _ _ (by omega) _ (Nat.le_refl _), List.take_length]
 have hA : ∀ k, k ≤ g.an.length → numA (plAs g.dl (atS g rs ns) (ptsN g.ct) g.an k) = ixm F (2 * ptsN g.ct) (numA (g.an.take k)) := by
  intro k
  induction k with
  | zero => intro _; rfl
  | succ k ih =>
   intro hk
   have h1 := ih (by omega)
   rw [plAs_succ, take_at g.an k (by omega) zI3]
   obtain ⟨z, x, y⟩ := g.an.getD k zI3
   have h3 : plA g.dl (atS g rs ns) (ptsN g.ct + k) ⟨z, x, y⟩ = ⟨z, F (2 * (ptsN g.ct + k)) x, F (2 * (ptsN g.ct + k) + 1) y⟩ := by
    unfold plA
    rw [hb0 _ _ (by omega), hb1 _ _ (by omega), hF', hF']
   rw [h3, numA_snoc, numA_snoc, ixm_append, h1, numA_len, List.length_take, Nat.min_eq_left (by omega), show 2 * ptsN g.ct + 2 * k = 2 * (ptsN g.ct + k) by omega]
   rfl
 have hX : atX g rs ns = F (2 * (ptsN g.ct + g.an.length)) g.hang.b := by unfold atX; rw [hb0 _ _ (by omega), hF']
 have hY : atY g rs ns = F (2 * (ptsN g.ct + g.an.length) + 1) g.hang.c := by unfold atY; rw [hb1 _ _ (by omega), hF']
 have hV : atV g rs ns = F (2 * (ptsN g.ct + g.an.length) + 1 + 1) g.adv := by
  rw [← hF']
  refine sumB_congr _ _ _ g.dl _ fun d hd' => ?_
  unfold byK
  rw [if_neg (by rw [(hd d hd').2.2]; omega)]
 rw [hX, hY, hV]
 unfold numL atC atA
 rw [hC _ (Nat.le_refl _), hA _ (Nat.le_refl _), List.take_length, List.take_length, ixm_append, ixm_append, List.length_append, numC_len, numA_len, Nat.zero_add, Nat.zero_add, show 2 * ptsN g.ct + 2 * g.an.length = 2 * (ptsN g.ct + g.an.length) by omega, hF]
 rfl
theorem numL_len (ct : List (List Pt)) (an : List I3) (xb xc av : Int) : (numL ct an xb xc av).length = 2 * (ptsN ct + an.length) + 3 := by
 unfold numL
 rw [List.length_append, List.length_append, numC_len, numA_len]
 simp only [List.length_cons, List.length_nil]
 omega
/-- a glyph without deltas -/
def Gl.bare (g : Gl) : Gl := ⟨g.ct, g.an, g.hang, g.adv, [], g.pr⟩
/-- a glyph with the deltas that play a part -/
def Gl.some_ (g : Gl) (rs : List (List I3)) (ns : List Int) : Gl := ⟨g.ct, g.an, g.hang, g.adv, g.dl.filter fun d => decide ((sclB (rs.getD d.region.toNat []) ns).a ≠ 0), g.pr⟩
theorem md_bare {g : Gl} {R : Nat} (h : MdOk R g) : MdOk R g.bare := by
 have h1 := md_dls h (fun _ => false)
 rw [show g.dl.filter (fun _ => false) = [] by simp] at h1
 exact h1
theorem md_some {g : Gl} {R : Nat} (h : MdOk R g) (rs : List (List I3)) (ns : List Int) : MdOk R (g.some_ rs ns) := md_dls h _
theorem some_is (g : Gl) (rs : List (List I3)) (ns : List Int) : atC (g.some_ rs ns) rs ns = atC g rs ns ∧ atA (g.some_ rs ns) rs ns = atA g rs ns ∧ atX (g.some_ rs ns) rs ns = atX g rs ns ∧ atY (g.some_ rs ns) rs ns = atY g rs ns ∧ atV (g.some_ rs ns) rs ns = atV g rs ns :=
 at_sums g _ rs ns (fun bv n => sumB_filter bv n g.dl _)
def numG (g : Gl) (rs : List (List I3)) (ns : List Int) : List Int := numL (atC g rs ns) (atA g rs ns) (atX g rs ns) (atY g rs ns) (atV g rs ns)
theorem numG_len (g : Gl) (rs : List (List I3)) (ns : List Int) : (numG g rs ns).length = 2 * g.pts + 1 := by
 have h := atC_len g rs ns
 unfold numG
 rw [numL_len, h.2.1, h.2.2.2]
 unfold Gl.pts
 omega
theorem adds_all {g : Gl} {R : Nat} (hm : MdOk R g) (rs : List (List I3)) (ns : List Int) (k : Nat) (hk : k < 2 * g.pts + 1) :
  ∃ n : Int, (-256 ≤ n ∧ n ≤ 256) ∧ (numG g.bare rs ns).getD k 0 = 64 * n ∧ (numG g rs ns).getD k 0 = sumB (byK k) n g.dl (atS g rs ns) := by
 have hl : (numL g.ct g.an g.hang.b g.hang.c g.adv).length = 2 * g.pts + 1 := by rw [numL_len]; unfold Gl.pts; omega
 have h0 : (numG g.bare rs ns).getD k 0 = 64 * (numL g.ct g.an g.hang.b g.hang.c g.adv).getD k 0 := by
  unfold numG
  rw [adds_num (md_bare hm) rs ns, ixm_getD _ _ _ _ (by show k < (numL g.ct g.an g.hang.b g.hang.c g.adv).length; omega)]
  show sumB _ _ [] _ = 64 * (numL g.ct g.an g.hang.b g.hang.c g.adv).getD k 0
  unfold sumB
  simp [Gl.bare]
 refine ⟨(numL g.ct g.an g.hang.b g.hang.c g.adv).getD k 0, ?_, h0, ?_⟩
 ·have h1 := mem_num (at_bd (md_bare hm) rs ns) _ (getD_at (show k < (numG g.bare rs ns).length by rw [numG_len]; exact hk) 0)
  rw [h0] at h1
  unfold Bd at h1
  omega
 ·unfold numG
  rw [adds_num hm rs ns, ixm_getD _ _ _ _ (by omega), Nat.zero_add]
theorem sumK_bd {g : Gl} {R : Nat} (hm : MdOk R g) (rs : List (List I3)) (ns : List Int) (k j : Nat) (n : Int) (hn : -256 ≤ n ∧ n ≤ 256) : -100000 ≤ sumK (byK k) n g.dl (atS g rs ns) j ∧ sumK (byK k) n g.dl (atS g rs ns) j ≤ 100000 := by
 unfold sumK
 have h := sum_bd (((g.dl.zip (atS g rs ns)).take j).map fun x => partQ (byK k x.1) x.2.a x.2.b) (fun x hx => by
  obtain ⟨y, hy, rfl⟩ := List.mem_map.1 hx
  exact part_le _ _ _ (byK_bd hm k _ (List.of_mem_zip (List.mem_of_mem_take hy)).1))
 have h1 := hm.nd
 rw [List.length_map, List.length_take, List.length_zip] at h
 omega
/-- an outline, by letters -/
structure AtIs (g : Gl) (rs : List (List I3)) (ns : List Int) (ct : List (List Pt)) (an : List I3) (xb xc av : Int) : Prop where
 c_ : atC g rs ns = ct
 a_ : atA g rs ns = an
 x_ : atX g rs ns = xb
 y_ : atY g rs ns = xc
 v_ : atV g rs ns = av
theorem AtIs.mk_ (g : Gl) (rs : List (List I3)) (ns : List Int) : ∃ ct an xb xc av, AtIs g rs ns ct an xb xc av := ⟨_, _, _, _, _, ⟨rfl, rfl, rfl, rfl, rfl⟩⟩
theorem AtIs.some_ {g : Gl} {rs : List (List I3)} {ns : List Int} {ct : List (List Pt)} {an : List I3} {xb xc av : Int} (h : AtIs g rs ns ct an xb xc av) : AtIs (g.some_ rs ns) rs ns ct an xb xc av := by
 obtain ⟨h1, h2, h3, h4, h5⟩ := some_is g rs ns
 exact ⟨h1.trans h.c_, h2.trans h.a_, h3.trans h.x_, h4.trans h.y_, h5.trans h.v_⟩
structure Lens (ct : List (List Pt)) (an : List I3) : Prop where
 l1 : ct.length ≤ 1000000
 l2 : an.length ≤ 1000000
 l3 : ∀ q ∈ ct, q.length ≤ 1000000
 l4 : ptsN ct ≤ 1000000
theorem AtIs.lens {g : Gl} {rs : List (List I3)} {ns : List Int} {ct : List (List Pt)} {an : List I3} {xb xc av : Int} (h : AtIs g rs ns ct an xb xc av) {R : Nat} (hm : MdOk R g) : Lens ct an := by
 have hln := atC_len g rs ns
 have hgd := chk_good g _ hm.chk
 rw [h.c_, h.a_] at hln
 have h4 : ptsN ct ≤ 1000000 := by rw [hln.2.1]; have := hgd.np; unfold Gl.pts at this; omega
 exact ⟨by rw [hln.1]; have := hgd.nc; omega, by rw [hln.2.2.2]; have := hgd.na; omega, fun q hq => Nat.le_trans (len_le_pts _ q hq) h4, h4⟩
theorem at_ok (g : Gl) (h : Hd) (rs : List (List I3)) (Ar : Option Addr) (cr : Nat) (ns : List Int) (Ba : Option Addr) (ca : Nat) (w : World) (ct : List (List Pt)) (an : List I3) (xb xc av : Int) (xa : Int) (hxa : g.hang.a = xa) (hat : AtIs g rs ns ct an xb xc av) (hg : GlR w g h) (hm : MdOk rs.length g) (hE : atE g rs ns = 0) (hC : Kd.C kRg w Ar rs.length rs) (hD : Kd.C kI w Ba ns.length ns) (hrl : rs.length ≤ 1000000) (hnl : ns.length ≤ 140737488355328) :
  Calls Try.prog 14 #[.agg (gv g h), .slice Ar rs.length cr, .slice Ba ns.length ca] w fun e w' => ∃ B1 k1 B2 k2, e = .returned (.tuple #[.agg #[.slice B1 ct.length k1, .slice B2 an.length k2, .int .i64 xa, .int .i64 xb, .int .i64 xc, .int .i64 av], .int .i64 0]) ∧ Kd.C kCt w' B1 ct.length ct ∧ Kd.C kI3 w' B2 an.length an ∧ Below w.heap.size w w' := by
 refine (at_any g h rs Ar cr ns Ba ca w hg (md_few hm) hC hD hrl hnl).mono ?_
 rintro e v3 ⟨hb, ⟨h1, _⟩ | ⟨_, vb, va, rfl, hC, hA⟩⟩
 ·exact absurd hE h1
 rw [hat.c_] at hC
 rw [hat.a_] at hA
 rw [hat.x_, hat.y_, hat.v_, hxa]
 obtain ⟨B1, k1, rfl, _, hc⟩ := Kd.R_reads hC
 obtain ⟨B2, k2, rfl, _, ha⟩ := Kd.R_reads hA
 exact ⟨B1, k1, B2, k2, rfl, hc, ha, hb⟩
/-- the numbers of the outline, by those of the outline without deltas -/
structure Adds (g : Gl) (rs : List (List I3)) (ns : List Int) (xs ys : List Int) : Prop where
 lx : xs.length = 2 * g.pts + 1
 ly : ys.length = 2 * g.pts + 1
 at_ : ∀ k, k < 2 * g.pts + 1 → ∃ n : Int, (-256 ≤ n ∧ n ≤ 256) ∧ ys.getD k 0 = 64 * n ∧ xs.getD k 0 = sumB (byK k) n g.dl (atS g rs ns)
theorem adds_is {g : Gl} {R : Nat} (hm : MdOk R g) {rs : List (List I3)} {ns : List Int} {ct ct2 : List (List Pt)} {an an2 : List I3} {xb xc av xb2 xc2 av2 : Int} (h : AtIs g rs ns ct an xb xc av) (k : AtIs g.bare rs ns ct2 an2 xb2 xc2 av2) : Adds g rs ns (numL ct an xb xc av) (numL ct2 an2 xb2 xc2 av2) := by
 have e1 : numL ct an xb xc av = numG g rs ns := by unfold numG; rw [h.c_, h.a_, h.x_, h.y_, h.v_]
 have e2 : numL ct2 an2 xb2 xc2 av2 = numG g.bare rs ns := by unfold numG; rw [k.c_, k.a_, k.x_, k.y_, k.v_]
 rw [e1, e2]
 exact ⟨numG_len g rs ns, numG_len g.bare rs ns, fun j hj => adds_all hm rs ns j hj⟩
theorem adds_loop {g : Gl} {R : Nat} (hm : MdOk R g) {rs : List (List I3)} {ns xs ys : List Int} (h : Adds g rs ns xs ys) (k : Nat) (hk : k < 2 * g.pts + 1) :
  ∃ SK : Nat → Int, ys.getD k 0 = SK 0 ∧ xs.getD k 0 = SK g.dl.length ∧ (∀ j, j < g.dl.length → SK (j + 1) = SK j + partQ (byK k (g.dl.getD j zDl)) (sclB (rs.getD (g.dl.getD j zDl).region.toNat []) ns).a (sclB (rs.getD (g.dl.getD j zDl).region.toNat []) ns).b) ∧ ∀ j, -100000 ≤ SK j ∧ SK j ≤ 100000 := by
 obtain ⟨n, hn, h1, h2⟩ := h.at_ k hk
 refine ⟨fun j => sumK (byK k) n g.dl (atS g rs ns) j, ?_, ?_, fun j hj => ?_, fun j => sumK_bd hm rs ns k j n hn⟩
 ·rw [h1]; simp [sumK]
 ·rw [h2]
  show _ = sumK (byK k) n g.dl (atS g rs ns) g.dl.length
  unfold sumB sumK
  rw [List.take_of_length_le (by simp [atS])]
 ·have hs : (atS g rs ns).getD j zI2 = sclB (rs.getD (g.dl.getD j zDl).region.toNat []) ns := by
   unfold atS
   simp [List.getD_eq_getElem?_getD, hj]
  show sumK (byK k) n g.dl (atS g rs ns) (j + 1) = sumK (byK k) n g.dl (atS g rs ns) j + _
  rw [sumK_at _ _ _ _ _ hj (by simp [atS]; exact hj), hs]
theorem byK_part {d : Dl} {k : Nat} (h : -64 ≤ byK k d ∧ byK k d ≤ 64) (r : List I3) (ns : List Int) : partOk (byK k d) (sclB r ns).a (sclB r ns).b = true := by
 unfold partOk
 rw [scl_right, sm_true.2 (by omega)]
 rfl
theorem byK_a {d : Dl} {k m : Nat} (h : k < 2 * d.moves.length) (hm : k = 2 * m) : byK k d = (d.moves.getD m zI2).a := by
 unfold byK
 rw [if_pos h, if_pos (by omega), show k / 2 = m by omega]
theorem byK_b {d : Dl} {k m : Nat} (h : k < 2 * d.moves.length) (hm : k = 2 * m + 1) : byK k d = (d.moves.getD m zI2).b := by
 unfold byK
 rw [if_pos h, if_neg (by omega), show k / 2 = m by omega]
theorem byK_c {d : Dl} {k : Nat} (h : ¬ k < 2 * d.moves.length) : byK k d = d.adv := by
 unfold byK
 rw [if_neg h]
end Go.Proofs.Ythpccdhmppbkfaa
/- OutlineAdds. -/
set_option linter.unusedVariables false
set_option linter.unusedSimpArgs false
namespace Go.Proofs.Ythpccdhmppbkfaa
open Go.RowKit Go.Shelf Go.Proofs.YthpccdhmppbkfaaW.PrintWords Go.Proofs.YthpccdhmppbkfaaW.PrintLast Go.Proofs.YthpccdhmppbkfaaW.PrintMore
theorem fieldSc (a b : Int) (w : World) : (Instr.field 48 (.agg #[.int .i64 a, .int .i64 b]) 0).run Try.prog w = .ok (.int .i64 a) w := by kernel_rfl
attribute [local go_sem] fieldSc
def oAd3.T3 : Bool × List (List Nat × List Nat) := (true, [([], []), ([], []), ([], []), ([], []), ([2, 0, 0, 2, 3], [0, 2]), ([3, 1, 4, 0, 1, 2, 3, 4], [1, 3])])
def oAd3.B3 : List Nat := [0, 0, 0, 0, 13, 31]
theorem oAd3.tab3 : rtab .any (opsOf Try.f5 3) = oAd3.T3 := by kernel_rfl
theorem oAd3.bits3 : waitsOk oAd3.T3.2 oAd3.B3 = true := by kernel_rfl
def oAd14.T14 : Bool × List (List Nat × List Nat) := (true, [([], []), ([0], [0]), ([], []), ([2, 1], [2]), ([1, 3, 0, 1], [1]), ([3, 4, 0, 1, 2, 3, 4], [3])])
def oAd14.B14 : List Nat := [0, 1, 0, 7, 15, 31]
theorem oAd14.tab14 : rtab .any (opsOf Try.f5 14) = oAd14.T14 := by kernel_rfl
theorem oAd14.bits14 : waitsOk oAd14.T14.2 oAd14.B14 = true := by kernel_rfl
set_option maxRecDepth 100000 in
set_option maxHeartbeats 16000000 in
theorem adds_any (l1 l2 l3 : List Int) (A1 A2 A3 : Option Addr) (c1 c2 c3 : Nat) (o0 o1 o2 x y : Int) (w : World) (hx : 0 ≤ x ∧ x ≤ 255) (hy : 0 ≤ y ∧ y ≤ 255) (h1 : Kd.C kI w A1 l1.length l1) (h2 : Kd.C kI w A2 l2.length l2) (h3 : Kd.C kI w A3 l3.length l3) (h4 : l2.length ≤ c2) :
  Calls Try.prog 5 #[.agg #[.slice A1 l1.length c1, .slice A2 l2.length c2, .slice A3 l3.length c3, .int .i64 o0, .int .i64 o1, .int .i64 o2, .int .u8 x, .int .u8 y]] w fun e w' => e = .returned (.bool true) ∧ Below w.heap.size w w' := by
 have HC1 := Lib.hid h1
 have HC2 := Lib.hid h2
 have HC3 := Lib.hid h3
 have HCP2 := Lib.hid h4
 have HBX := Lib.hid hx
 have HBY := Lib.hid hy
 clear h1 h2 h3 h4 hx hy
 go_enter Try.func5, Try.ntmps5
 go_upto_region 1 with fail
 obtain ⟨w1, g1, hw0_, hg0_, Xg1_, Yg1_, _⟩ := new_box w #[.slice A1 l1.length c1, .slice A2 l2.length c2, .slice A3 l3.length c3, .int .i64 o0, .int .i64 o1, .int .i64 o2, .int .u8 x, .int .u8 y] 33
 rw [hw0_, hg0_]
 have Eg1 := Lib.hid (show g1 = w.heap.size + 0 by omega)
 clear hw0_ hg0_
 have HXw1 := Lib.hid (Yg1_.out)
 have Bg1 := Lib.hid (Xg1_.out)
 clear Xg1_ Yg1_
 have HX := HXw1
 clear HXw1
 go_wp2_with fail
 refine (sanity_any w1).mono ?_
 rintro e w2 ⟨rfl, hb⟩
 replace HX := Lib.hid (bthen' HX.out hb)
 replace Bg1 := Lib.hid (Bg1.out.below hb)
 clear hb
 have q0 := Bg1.out.cell 0
 have q1 := Bg1.out.cell 1
 have q2 := Bg1.out.cell 2
 have q3 := Bg1.out.cell 3
 have q4 := Bg1.out.cell 4
 have q5 := Bg1.out.cell 5
 have q6 := Bg1.out.cell 6
 have q7 := Bg1.out.cell 7
 simp only [List.getElem?_toArray, List.getElem?_cons_zero, List.getElem?_cons_succ] at q0 q1 q2 q3 q4 q5 q6 q7
 go_wp2_with fail
 refine (case_any l1 l2 l3 A1 A2 A3 c1 c2 c3 o0 o1 o2 x y w2 HBX.out HBY.out (Kd.C_below HC1.out HX.out) (Kd.C_below HC2.out HX.out) (Kd.C_below HC3.out HX.out) HCP2.out).mono ?_
 rintro e v ⟨g, ⟨N1, n1, N2, n2, N3, n3, N4, n4⟩, rs, Ar, cr, ns, Ba, ca, rfl, hcp⟩
 have hb := hcp.below
 have HCP := Lib.hid hcp
 clear hcp
 replace HX := Lib.hid (bthen' HX.out hb)
 clear hb
 have HWV := Lib.hid HX.out.size
 have HWB := HX
 have HXR := Lib.hid (Below.refl v.heap.size v)
 clear q0 q1 q2 q3 q4 q5 q6 q7 Bg1 HC1 HC2 HC3 HCP2 HBX HBY
 unfold gv
 go_upto_region 3 with fail
 obtain ⟨v2, gG, hw0_, hg0_, XgG_, YgG_, _⟩ := new_box v #[.slice N1 g.ct.length n1, .slice N2 g.an.length n2, .int .i64 g.hang.a, .int .i64 g.hang.b, .int .i64 g.hang.c, .int .i64 g.adv, .slice N3 g.dl.length n3, .slice N4 g.pr.length n4] 29
 rw [hw0_, hg0_]
 have EgG := Lib.hid (show gG = v.heap.size + 0 by omega)
 clear hw0_ hg0_
 have HXv2 := Lib.hid (YgG_.out)
 have BgG := Lib.hid (XgG_.out)
 clear XgG_ YgG_
 have hb := HXv2.out
 replace HX := Lib.hid (bthen' HX.out hb)
 replace HXR := Lib.hid (bthen' HXR.out hb)
 clear hb HXv2
 have HGL := Lib.hid BgG.out.lt
 have HGV := Lib.hid (show v.heap.size ≤ gG by have := EgG.out; omega)
 have HGW := Lib.hid (show w.heap.size ≤ gG by have := HGV.out; have := HWV.out; omega)
 refine start_ (n := 6) (S := fun w' => True) (ds := []) #[false, false, false, false, false, false] (by kernel_rfl) rfl rfl trivial (fun hHeld => ?_)
 refine with_tabW oAd3.tab3 oAd3.bits3 (fun HT_ HW_ => ?_)
 have HB : Aside0 (Below v2.heap.size v2 v2.drew) := ⟨bdrew (Below.refl _ _)⟩
 have BG : Aside0 (Blk v2.drew gG #[.slice N1 g.ct.length n1, .slice N2 g.an.length n2, .int .i64 g.hang.a, .int .i64 g.hang.b, .int .i64 g.hang.c, .int .i64 g.adv, .slice N3 g.dl.length n3, .slice N4 g.pr.length n4] 29) := ⟨BgG.out.drew⟩
 have HQ : Aside0 (0 < v2.drew.heap.size ∧ 0 < v2.drew.heap.size ∧ (0 = 0 → 0 = 0)) := ⟨by have h1 := HGL.out; show 0 < v2.heap.size ∧ 0 < v2.heap.size ∧ (0 = 0 → 0 = 0); omega⟩
 generalize hwd : v2.drew = w1' at *
 clear hwd
 refine inv_at [0, 1, 2, 3, 4, 5] (fun a0_ b a w' => ∃ (gB : Nat) (gS : Nat) (m2_ : Value) (m3_ : Value), a = putSel a0_ b [(0, 33, .agg #[.slice N1 g.ct.length n1, .slice N2 g.an.length n2, .int .i64 g.hang.a, .int .i64 g.hang.b, .int .i64 g.hang.c, .int .i64 g.adv, .slice N3 g.dl.length n3, .slice N4 g.pr.length n4]), (1, 34, .agg #[.slice N1 g.ct.length n1, .slice N2 g.an.length n2, .int .i64 g.hang.a, .int .i64 g.hang.b, .int .i64 g.hang.c, .int .i64 g.adv, .slice N3 g.dl.length n3, .slice N4 g.pr.length n4]), (2, 7, m2_), (3, 8, m3_)] ∧ (Below v2.heap.size v2 w') ∧ (Blk w' gG #[.slice N1 g.ct.length n1, .slice N2 g.an.length n2, .int .i64 g.hang.a, .int .i64 g.hang.b, .int .i64 g.hang.c, .int .i64 g.adv, .slice N3 g.dl.length n3, .slice N4 g.pr.length n4] 29) ∧ (b 2 = true → b 4 = false → Blk w' gB #[.slice none 0 0, .slice none 0 0, .int .i64 0, .int .i64 0, .int .i64 0, .int .i64 0, .slice none 0 0, .slice none 0 0] 29) ∧ (b 2 = true → v2.heap.size ≤ gB) ∧ (b 3 = true → b 5 = false → Blk w' gS #[.slice none 0 0, .slice none 0 0, .int .i64 0, .int .i64 0, .int .i64 0, .int .i64 0, .slice none 0 0, .slice none 0 0] 29) ∧ (b 3 = true → v2.heap.size ≤ gS) ∧ (gB < w'.heap.size ∧ gS < w'.heap.size ∧ (gB = gS → gB = 0)) ∧ (b 4 = true → Blk w' gB #[.slice N1 g.ct.length n1, .slice N2 g.an.length n2, .int .i64 g.hang.a, .int .i64 g.hang.b, .int .i64 g.hang.c, .int .i64 g.adv, .slice N3 g.dl.length n3, .slice N4 g.pr.length n4] 29) ∧ (b 5 = true → Blk w' gS #[.slice N1 g.ct.length n1, .slice N2 g.an.length n2, .int .i64 g.hang.a, .int .i64 g.hang.b, .int .i64 g.hang.c, .int .i64 g.adv, .slice N3 g.dl.length n3, .slice N4 g.pr.length n4] 29) ∧ (b 2 = true → (m2_ : Value) = .pointer (some ⟨gB, 0, none⟩)) ∧ (b 3 = true → (m3_ : Value) = .pointer (some ⟨gS, 0, none⟩))) HT_.out HW_.out (by kernel_rfl) (by kernel_rfl) ?_ ?_ ?_
 ·exact ⟨0, 0, .bool false, .bool false, by simp only [putSel, Bool.false_eq_true, if_false], HB.out, BG.out, fun h_ => absurd h_ (by decide), fun h_ => absurd h_ (by decide), fun h_ => absurd h_ (by decide), fun h_ => absurd h_ (by decide), HQ.out, fun h_ => absurd h_ (by decide), fun h_ => absurd h_ (by decide), fun h_ => absurd h_ (by decide), fun h_ => absurd h_ (by decide)⟩
 ·skip
  clear BG HB HQ
  refine steps_cons ?_ ?_
  ·rintro b a w' ⟨gB, gS, m2_, m3_, ha, Q_HB, Q_BG, Q_NB, Q_LgB, Q_NS, Q_LgS, Q_HQ, Q_FB, Q_FS, Q_X2_, Q_X3_⟩ hb_ hon hoff
   refine ⟨_, rfl, fun K hK => ?_⟩
   have e4 : a.tmps[4]? = some (.pointer (some ⟨gG, 0, none⟩)) := by rw [ha]; exact (putSel_off rfl).trans rfl
   replace ha := Aside0.mk ha
   have HB := Aside0.mk Q_HB
   have BG := Aside0.mk Q_BG
   have HQ := Aside0.mk Q_HQ
   have z0 := BG.out.cell 0
   have z1 := BG.out.cell 1
   have z2 := BG.out.cell 2
   have z3 := BG.out.cell 3
   have z4 := BG.out.cell 4
   have z5 := BG.out.cell 5
   have z6 := BG.out.cell 6
   have z7 := BG.out.cell 7
   refine value_ (w1 := w') (v := .agg #[.slice N1 g.ct.length n1, .slice N2 g.an.length n2, .int .i64 g.hang.a, .int .i64 g.hang.b, .int .i64 g.hang.c, .int .i64 g.adv, .slice N3 g.dl.length n3, .slice N4 g.pr.length n4]) (by rfl) rfl ?_ ?_
   ·go_simp
    (try simp only [i64_w])
    try rfl
    try assumption
   refine hK.out _ _ ⟨gB, gS, m2_, m3_, (by rw [ha.out]; exact putSel_upk 0 hb_ rfl rfl rfl), Q_HB, Q_BG, Q_NB, Q_LgB, Q_NS, Q_LgS, Q_HQ, fun h0_ => absurd ((hoff 4 (by kernel_rfl)).symm.trans h0_) (by decide), fun h0_ => absurd ((hoff 5 (by kernel_rfl)).symm.trans h0_) (by decide), Q_X2_, Q_X3_⟩
  refine steps_cons ?_ ?_
  ·rintro b a w' ⟨gB, gS, m2_, m3_, ha, Q_HB, Q_BG, Q_NB, Q_LgB, Q_NS, Q_LgS, Q_HQ, Q_FB, Q_FS, Q_X2_, Q_X3_⟩ hb_ hon hoff
   refine ⟨_, rfl, fun K hK => ?_⟩
   have e4 : a.tmps[4]? = some (.pointer (some ⟨gG, 0, none⟩)) := by rw [ha]; exact (putSel_off rfl).trans rfl
   replace ha := Aside0.mk ha
   have HB := Aside0.mk Q_HB
   have BG := Aside0.mk Q_BG
   have HQ := Aside0.mk Q_HQ
   have z0 := BG.out.cell 0
   have z1 := BG.out.cell 1
   have z2 := BG.out.cell 2
   have z3 := BG.out.cell 3
   have z4 := BG.out.cell 4
   have z5 := BG.out.cell 5
   have z6 := BG.out.cell 6
   have z7 := BG.out.cell 7
   refine value_ (w1 := w') (v := .agg #[.slice N1 g.ct.length n1, .slice N2 g.an.length n2, .int .i64 g.hang.a, .int .i64 g.hang.b, .int .i64 g.hang.c, .int .i64 g.adv, .slice N3 g.dl.length n3, .slice N4 g.pr.length n4]) (by rfl) rfl ?_ ?_
   ·go_simp
    (try simp only [i64_w])
    try rfl
    try assumption
   refine hK.out _ _ ⟨gB, gS, m2_, m3_, (by rw [ha.out]; exact putSel_upk 1 hb_ rfl rfl rfl), Q_HB, Q_BG, Q_NB, Q_LgB, Q_NS, Q_LgS, Q_HQ, Q_FB, fun h0_ => absurd ((hoff 5 (by kernel_rfl)).symm.trans h0_) (by decide), Q_X2_, Q_X3_⟩
  refine steps_cons ?_ ?_
  ·rintro b a w' ⟨gB, gS, m2_, m3_, ha, Q_HB, Q_BG, Q_NB, Q_LgB, Q_NS, Q_LgS, Q_HQ, Q_FB, Q_FS, Q_X2_, Q_X3_⟩ hb_ hon hoff
   refine ⟨_, rfl, fun K hK => ?_⟩
   replace ha := Aside0.mk ha
   have HB := Aside0.mk Q_HB
   have BG := Aside0.mk Q_BG
   have HQ := Aside0.mk Q_HQ
   refine value_ (w1 := w'.alloc (.cells #[.slice none 0 0, .slice none 0 0, .int .i64 0, .int .i64 0, .int .i64 0, .int .i64 0, .slice none 0 0, .slice none 0 0] 29)) (v := .pointer (some ⟨w'.heap.size, 0, none⟩)) (by rfl) rfl ?_ ?_
   ·go_simp
   refine hK.out _ _ ⟨w'.heap.size, gS, (.pointer (some ⟨w'.heap.size, 0, none⟩)), m3_, (by rw [ha.out]; exact putSel_upk 2 hb_ rfl rfl rfl), bthen' HB.out (below_alloc (Below.refl _ w') _), BG.out.alloc _, fun _ _ => Blk.new w' _ _ rfl, fun _ => HB.out.size, fun h0_ h1_ => (Q_NS h0_ h1_).alloc _, Q_LgS, (by have h1 := HQ.out; simp; omega), fun h0_ => absurd ((hoff 4 (by kernel_rfl)).symm.trans h0_) (by decide), fun h0_ => absurd ((hoff 5 (by kernel_rfl)).symm.trans h0_) (by decide), fun _ => rfl, Q_X3_⟩
  refine steps_cons ?_ ?_
  ·rintro b a w' ⟨gB, gS, m2_, m3_, ha, Q_HB, Q_BG, Q_NB, Q_LgB, Q_NS, Q_LgS, Q_HQ, Q_FB, Q_FS, Q_X2_, Q_X3_⟩ hb_ hon hoff
   refine ⟨_, rfl, fun K hK => ?_⟩
   replace ha := Aside0.mk ha
   have HB := Aside0.mk Q_HB
   have BG := Aside0.mk Q_BG
   have HQ := Aside0.mk Q_HQ
   refine value_ (w1 := w'.alloc (.cells #[.slice none 0 0, .slice none 0 0, .int .i64 0, .int .i64 0, .int .i64 0, .int .i64 0, .slice none 0 0, .slice none 0 0] 29)) (v := .pointer (some ⟨w'.heap.size, 0, none⟩)) (by rfl) rfl ?_ ?_
   ·go_simp
   refine hK.out _ _ ⟨gB, w'.heap.size, m2_, (.pointer (some ⟨w'.heap.size, 0, none⟩)), (by rw [ha.out]; exact putSel_upk 3 hb_ rfl rfl rfl), bthen' HB.out (below_alloc (Below.refl _ w') _), BG.out.alloc _, fun h0_ h1_ => (Q_NB h0_ h1_).alloc _, Q_LgB, fun _ _ => Blk.new w' _ _ rfl, fun _ => HB.out.size, (by have h1 := HQ.out; simp; omega), fun h0_ => absurd ((hoff 4 (by kernel_rfl)).symm.trans h0_) (by decide), fun h0_ => absurd ((hoff 5 (by kernel_rfl)).symm.trans h0_) (by decide), Q_X2_, fun _ => rfl⟩
  refine steps_cons ?_ ?_
  ·rintro b a w' ⟨gB, gS, m2_, m3_, ha, Q_HB, Q_BG, Q_NB, Q_LgB, Q_NS, Q_LgS, Q_HQ, Q_FB, Q_FS, Q_X2_, Q_X3_⟩ hb_ hon hoff
   refine ⟨_, rfl, fun K hK => ?_⟩
   have e7 : a.tmps[7]? = some (m2_) := by rw [ha]; exact putSel_on (e := (2, 7, m2_)) 2 rfl rfl (hon 2 (by kernel_rfl)) rfl
   rw [Q_X2_ (hon 2 (by kernel_rfl))] at e7
   have e33 : a.tmps[33]? = some (.agg #[.slice N1 g.ct.length n1, .slice N2 g.an.length n2, .int .i64 g.hang.a, .int .i64 g.hang.b, .int .i64 g.hang.c, .int .i64 g.adv, .slice N3 g.dl.length n3, .slice N4 g.pr.length n4]) := by rw [ha]; exact putSel_on (e := (0, 33, .agg #[.slice N1 g.ct.length n1, .slice N2 g.an.length n2, .int .i64 g.hang.a, .int .i64 g.hang.b, .int .i64 g.hang.c, .int .i64 g.adv, .slice N3 g.dl.length n3, .slice N4 g.pr.length n4])) 0 rfl rfl (hon 0 (by kernel_rfl)) rfl
   replace ha := Aside0.mk ha
   have HB := Aside0.mk Q_HB
   have BG := Aside0.mk Q_BG
   have NB := Aside0.mk (Q_NB (hon 2 (by kernel_rfl)) hb_)
   have LgB := Aside0.mk (Q_LgB (hon 2 (by kernel_rfl)))
   have NS := Aside0.mk (Q_NS (hon 3 (by kernel_rfl)) (hoff 5 (by kernel_rfl)))
   have LgS := Aside0.mk (Q_LgS (hon 3 (by kernel_rfl)))
   have HQ := Aside0.mk Q_HQ
   have c0 := NB.out.cell 0
   have c1 := NB.out.cell 1
   have c2 := NB.out.cell 2
   have c3 := NB.out.cell 3
   have c4 := NB.out.cell 4
   have c5 := NB.out.cell 5
   have c6 := NB.out.cell 6
   have c7 := NB.out.cell 7
   simp only [List.getElem?_toArray, List.getElem?_cons_zero, List.getElem?_cons_succ] at c0 c1 c2 c3 c4 c5 c6 c7
   have f0 := NB.out.frozen 0
   have f1 := NB.out.frozen 1
   have f2 := NB.out.frozen 2
   have f3 := NB.out.frozen 3
   have f4 := NB.out.frozen 4
   have f5 := NB.out.frozen 5
   have f6 := NB.out.frozen 6
   have f7 := NB.out.frozen 7
   refine skip_ (w1 := ((((((((w'.setCell ⟨gB, 0, none⟩ (.slice N1 g.ct.length n1)).setCell ⟨gB, 1, none⟩ (.slice N2 g.an.length n2)).setCell ⟨gB, 2, none⟩ (.int .i64 g.hang.a)).setCell ⟨gB, 3, none⟩ (.int .i64 g.hang.b)).setCell ⟨gB, 4, none⟩ (.int .i64 g.hang.c)).setCell ⟨gB, 5, none⟩ (.int .i64 g.adv)).setCell ⟨gB, 6, none⟩ (.slice N3 g.dl.length n3)).setCell ⟨gB, 7, none⟩ (.slice N4 g.pr.length n4))) (by rfl) rfl ?_ ?_
   ·go_simp
   refine hK.out _ _ ⟨gB, gS, m2_, m3_, (by rw [ha.out]; exact putSel_none (v := undef) rfl), (bset (bset (bset (bset (bset (bset (bset (bset HB.out LgB.out 0 (.slice N1 g.ct.length n1)) LgB.out 1 (.slice N2 g.an.length n2)) LgB.out 2 (.int .i64 g.hang.a)) LgB.out 3 (.int .i64 g.hang.b)) LgB.out 4 (.int .i64 g.hang.c)) LgB.out 5 (.int .i64 g.adv)) LgB.out 6 (.slice N3 g.dl.length n3)) LgB.out 7 (.slice N4 g.pr.length n4)), ((((((((BG.out.far (by have := LgB.out; have := HGL.out; omega) 0 (.slice N1 g.ct.length n1)).far (by have := LgB.out; have := HGL.out; omega) 1 (.slice N2 g.an.length n2)).far (by have := LgB.out; have := HGL.out; omega) 2 (.int .i64 g.hang.a)).far (by have := LgB.out; have := HGL.out; omega) 3 (.int .i64 g.hang.b)).far (by have := LgB.out; have := HGL.out; omega) 4 (.int .i64 g.hang.c)).far (by have := LgB.out; have := HGL.out; omega) 5 (.int .i64 g.adv)).far (by have := LgB.out; have := HGL.out; omega) 6 (.slice N3 g.dl.length n3)).far (by have := LgB.out; have := HGL.out; omega) 7 (.slice N4 g.pr.length n4)), fun _ h1_ => absurd ((up_self b 4).symm.trans h1_) (by decide), Q_LgB, fun _ _ => ((((((((NS.out.far (by have := HQ.out; have := LgS.out; have := HGL.out; omega) 0 (.slice N1 g.ct.length n1)).far (by have := HQ.out; have := LgS.out; have := HGL.out; omega) 1 (.slice N2 g.an.length n2)).far (by have := HQ.out; have := LgS.out; have := HGL.out; omega) 2 (.int .i64 g.hang.a)).far (by have := HQ.out; have := LgS.out; have := HGL.out; omega) 3 (.int .i64 g.hang.b)).far (by have := HQ.out; have := LgS.out; have := HGL.out; omega) 4 (.int .i64 g.hang.c)).far (by have := HQ.out; have := LgS.out; have := HGL.out; omega) 5 (.int .i64 g.adv)).far (by have := HQ.out; have := LgS.out; have := HGL.out; omega) 6 (.slice N3 g.dl.length n3)).far (by have := HQ.out; have := LgS.out; have := HGL.out; omega) 7 (.slice N4 g.pr.length n4)), Q_LgS, (by have h1 := HQ.out; simpa using h1), fun _ => ((((((((NB.out.put 0 (.slice N1 g.ct.length n1) rfl).put 1 (.slice N2 g.an.length n2) rfl).put 2 (.int .i64 g.hang.a) rfl).put 3 (.int .i64 g.hang.b) rfl).put 4 (.int .i64 g.hang.c) rfl).put 5 (.int .i64 g.adv) rfl).put 6 (.slice N3 g.dl.length n3) rfl).put 7 (.slice N4 g.pr.length n4) rfl), fun h0_ => absurd ((hoff 5 (by kernel_rfl)).symm.trans h0_) (by decide), Q_X2_, Q_X3_⟩
  refine steps_cons ?_ ?_
  ·rintro b a w' ⟨gB, gS, m2_, m3_, ha, Q_HB, Q_BG, Q_NB, Q_LgB, Q_NS, Q_LgS, Q_HQ, Q_FB, Q_FS, Q_X2_, Q_X3_⟩ hb_ hon hoff
   refine ⟨_, rfl, fun K hK => ?_⟩
   have e8 : a.tmps[8]? = some (m3_) := by rw [ha]; exact putSel_on (e := (3, 8, m3_)) 3 rfl rfl (hon 3 (by kernel_rfl)) rfl
   rw [Q_X3_ (hon 3 (by kernel_rfl))] at e8
   have e34 : a.tmps[34]? = some (.agg #[.slice N1 g.ct.length n1, .slice N2 g.an.length n2, .int .i64 g.hang.a, .int .i64 g.hang.b, .int .i64 g.hang.c, .int .i64 g.adv, .slice N3 g.dl.length n3, .slice N4 g.pr.length n4]) := by rw [ha]; exact putSel_on (e := (1, 34, .agg #[.slice N1 g.ct.length n1, .slice N2 g.an.length n2, .int .i64 g.hang.a, .int .i64 g.hang.b, .int .i64 g.hang.c, .int .i64 g.adv, .slice N3 g.dl.length n3, .slice N4 g.pr.length n4])) 1 rfl rfl (hon 1 (by kernel_rfl)) rfl
   replace ha := Aside0.mk ha
   have HB := Aside0.mk Q_HB
   have BG := Aside0.mk Q_BG
   have LgB := Aside0.mk (Q_LgB (hon 2 (by kernel_rfl)))
   have NS := Aside0.mk (Q_NS (hon 3 (by kernel_rfl)) hb_)
   have LgS := Aside0.mk (Q_LgS (hon 3 (by kernel_rfl)))
   have HQ := Aside0.mk Q_HQ
   have FB := Aside0.mk (Q_FB (hon 4 (by kernel_rfl)))
   have c0 := NS.out.cell 0
   have c1 := NS.out.cell 1
   have c2 := NS.out.cell 2
   have c3 := NS.out.cell 3
   have c4 := NS.out.cell 4
   have c5 := NS.out.cell 5
   have c6 := NS.out.cell 6
   have c7 := NS.out.cell 7
   simp only [List.getElem?_toArray, List.getElem?_cons_zero, List.getElem?_cons_succ] at c0 c1 c2 c3 c4 c5 c6 c7
   have f0 := NS.out.frozen 0
   have f1 := NS.out.frozen 1
   have f2 := NS.out.frozen 2
   have f3 := NS.out.frozen 3
   have f4 := NS.out.frozen 4
   have f5 := NS.out.frozen 5
   have f6 := NS.out.frozen 6
   have f7 := NS.out.frozen 7
   refine skip_ (w1 := ((((((((w'.setCell ⟨gS, 0, none⟩ (.slice N1 g.ct.length n1)).setCell ⟨gS, 1, none⟩ (.slice N2 g.an.length n2)).setCell ⟨gS, 2, none⟩ (.int .i64 g.hang.a)).setCell ⟨gS, 3, none⟩ (.int .i64 g.hang.b)).setCell ⟨gS, 4, none⟩ (.int .i64 g.hang.c)).setCell ⟨gS, 5, none⟩ (.int .i64 g.adv)).setCell ⟨gS, 6, none⟩ (.slice N3 g.dl.length n3)).setCell ⟨gS, 7, none⟩ (.slice N4 g.pr.length n4))) (by rfl) rfl ?_ ?_
   ·go_simp
   refine hK.out _ _ ⟨gB, gS, m2_, m3_, (by rw [ha.out]; exact putSel_none (v := undef) rfl), (bset (bset (bset (bset (bset (bset (bset (bset HB.out LgS.out 0 (.slice N1 g.ct.length n1)) LgS.out 1 (.slice N2 g.an.length n2)) LgS.out 2 (.int .i64 g.hang.a)) LgS.out 3 (.int .i64 g.hang.b)) LgS.out 4 (.int .i64 g.hang.c)) LgS.out 5 (.int .i64 g.adv)) LgS.out 6 (.slice N3 g.dl.length n3)) LgS.out 7 (.slice N4 g.pr.length n4)), ((((((((BG.out.far (by have := LgS.out; have := HGL.out; omega) 0 (.slice N1 g.ct.length n1)).far (by have := LgS.out; have := HGL.out; omega) 1 (.slice N2 g.an.length n2)).far (by have := LgS.out; have := HGL.out; omega) 2 (.int .i64 g.hang.a)).far (by have := LgS.out; have := HGL.out; omega) 3 (.int .i64 g.hang.b)).far (by have := LgS.out; have := HGL.out; omega) 4 (.int .i64 g.hang.c)).far (by have := LgS.out; have := HGL.out; omega) 5 (.int .i64 g.adv)).far (by have := LgS.out; have := HGL.out; omega) 6 (.slice N3 g.dl.length n3)).far (by have := LgS.out; have := HGL.out; omega) 7 (.slice N4 g.pr.length n4)), fun _ h1_ => absurd ((hon 4 (by kernel_rfl)).symm.trans h1_) (by decide), Q_LgB, fun _ h1_ => absurd ((up_self b 5).symm.trans h1_) (by decide), Q_LgS, (by have h1 := HQ.out; simpa using h1), fun _ => ((((((((FB.out.far (by have := HQ.out; have := LgB.out; have := HGL.out; omega) 0 (.slice N1 g.ct.length n1)).far (by have := HQ.out; have := LgB.out; have := HGL.out; omega) 1 (.slice N2 g.an.length n2)).far (by have := HQ.out; have := LgB.out; have := HGL.out; omega) 2 (.int .i64 g.hang.a)).far (by have := HQ.out; have := LgB.out; have := HGL.out; omega) 3 (.int .i64 g.hang.b)).far (by have := HQ.out; have := LgB.out; have := HGL.out; omega) 4 (.int .i64 g.hang.c)).far (by have := HQ.out; have := LgB.out; have := HGL.out; omega) 5 (.int .i64 g.adv)).far (by have := HQ.out; have := LgB.out; have := HGL.out; omega) 6 (.slice N3 g.dl.length n3)).far (by have := HQ.out; have := LgB.out; have := HGL.out; omega) 7 (.slice N4 g.pr.length n4)), fun _ => ((((((((NS.out.put 0 (.slice N1 g.ct.length n1) rfl).put 1 (.slice N2 g.an.length n2) rfl).put 2 (.int .i64 g.hang.a) rfl).put 3 (.int .i64 g.hang.b) rfl).put 4 (.int .i64 g.hang.c) rfl).put 5 (.int .i64 g.adv) rfl).put 6 (.slice N3 g.dl.length n3) rfl).put 7 (.slice N4 g.pr.length n4) rfl), Q_X2_, Q_X3_⟩
  exact steps_nil
 ·rintro b a w' hall ⟨gB, gS, m2_, m3_, ha, Q_HB, Q_BG, Q_NB, Q_LgB, Q_NS, Q_LgS, Q_HQ, Q_FB, Q_FS, Q_X2_, Q_X3_⟩
  clear BG HB HQ
  have hb0_ := hall 0 (by kernel_rfl)
  have hb1_ := hall 1 (by kernel_rfl)
  have hb2_ := hall 2 (by kernel_rfl)
  have hb3_ := hall 3 (by kernel_rfl)
  have hb4_ := hall 4 (by kernel_rfl)
  have hb5_ := hall 5 (by kernel_rfl)
  subst ha
  obtain rfl := Q_X2_ hb2_
  obtain rfl := Q_X3_ hb3_
  simp only [putSel, hb0_, hb1_, hb2_, hb3_, hb4_, hb5_, if_true, Act.put, List.setIfInBounds_toArray, List.set_cons_zero, List.set_cons_succ]
  have HB := Aside0.mk Q_HB
  clear Q_HB
  have BG := Aside0.mk Q_BG
  clear Q_BG
  clear Q_NB
  have LgB := Aside0.mk (Q_LgB hb2_)
  clear Q_LgB
  clear Q_NS
  have LgS := Aside0.mk (Q_LgS hb3_)
  clear Q_LgS
  have HQ := Aside0.mk Q_HQ
  clear Q_HQ
  have FB := Aside0.mk (Q_FB hb4_)
  clear Q_FB
  have FS := Aside0.mk (Q_FS hb5_)
  clear Q_FS
  clear hall hb0_ hb1_ hb2_ hb3_ hb4_ hb5_
  generalize w' = v3 at *
  have hne : gB ≠ gS := by have := HQ.out; have := LgB.out; have := HGL.out; omega
  have hnG : gG ≠ gB ∧ gG ≠ gS := by have := LgB.out; have := LgS.out; have := HGL.out; omega
  have HB3 := Lib.hid HB.out
  have HLB := Lib.hid LgB.out
  have HLS := Lib.hid LgS.out
  have y6 := FB.out.cell 6
  have f6 := FB.out.frozen 6
  have z6 := FS.out.cell 6
  have k6 := FS.out.frozen 6
  simp only [List.getElem?_toArray, List.getElem?_cons_zero, List.getElem?_cons_succ] at y6 z6
  go_upto_region 5 with fail
  clear y6 f6 z6 k6
  have BgB := Lib.hid ((FB.out.put 6 (.slice none 0 0) rfl).far hne 6 (.slice none 0 0))
  have BgS := Lib.hid ((FS.out.far (Ne.symm hne) 6 (.slice none 0 0)).put 6 (.slice none 0 0) rfl)
  replace BgG := Lib.hid ((BG.out.far hnG.1 6 (.slice none 0 0)).far hnG.2 6 (.slice none 0 0))
  have hb := bset (bset HB3.out HLB.out 6 (.slice none 0 0)) HLS.out 6 (.slice none 0 0)
  replace HX := Lib.hid (bthen' HX.out hb)
  replace HXR := Lib.hid (bthen' HXR.out hb)
  have HNE := Lib.hid hne
  have HNG := Lib.hid hnG
  clear hb hne hnG HB HB3 FB FS BG HQ LgB LgS HW_ HT_
  generalize World.setCell _ _ _ = v4 at *
  have HLB2 := Lib.hid (show v.heap.size ≤ gB by have := HLB.out; have := HGL.out; have := HGV.out; omega)
  have HLS2 := Lib.hid (show v.heap.size ≤ gS by have := HLS.out; have := HGL.out; have := HGV.out; omega)
  have d6 := BgG.out.cell 6
  simp only [List.getElem?_toArray, List.getElem?_cons_zero, List.getElem?_cons_succ] at d6
  go_wp2_with fail
  clear d6
  go_loopw [40] (fun i wr => ∃ (k : Nat) (fs : List Dl) (Af : Option Addr) (cf : Nat), i = .int .i64 (k : Int) ∧ k ≤ g.dl.length ∧ Hid (fs = (g.dl.take k).filter (fun d => decide ((sclB (rs.getD d.region.toNat []) ns).a ≠ 0))) ∧ Hid (Kd.R (view v kDl) 59 wr v.heap.size (fun _ => True) (.slice Af fs.length cf) fs) ∧ Hid (Blk wr gS #[.slice N1 g.ct.length n1, .slice N2 g.an.length n2, .int .i64 g.hang.a, .int .i64 g.hang.b, .int .i64 g.hang.c, .int .i64 g.adv, .slice Af fs.length cf, .slice N4 g.pr.length n4] 29) ∧ Hid (Blk wr gB #[.slice N1 g.ct.length n1, .slice N2 g.an.length n2, .int .i64 g.hang.a, .int .i64 g.hang.b, .int .i64 g.hang.c, .int .i64 g.adv, .slice none 0 0, .slice N4 g.pr.length n4] 29) ∧ Hid (Blk wr gG #[.slice N1 g.ct.length n1, .slice N2 g.an.length n2, .int .i64 g.hang.a, .int .i64 g.hang.b, .int .i64 g.hang.c, .int .i64 g.adv, .slice N3 g.dl.length n3, .slice N4 g.pr.length n4] 29) ∧ Hid (Below w.heap.size w wr) ∧ Hid (Below v.heap.size v wr)) (fun i _ => g.dl.length - (intOf i).toNat)
  case atStart => exact ⟨0, [], none, 0, rfl, Nat.zero_le _, Lib.hid rfl, Lib.hid (Kd.R_nil _ _ _ _ _), BgS, BgB, BgG, HX, HXR⟩
  case round =>
   clear BgG BgB BgS HX HXR
   obtain ⟨k, fs, Af, cf, rfl, hk, HFS, HR, BgS, BgB, BgG, HX, HXR⟩ := hrel
   by_cases hlt : k < g.dl.length
   ·have d1 : decide (k < g.dl.length) = true := decide_eq_true hlt
    have d2 : decide ((k : Int) < (g.dl.length : Int)) = true := decide_eq_true (by omega)
    have HKL := Lib.hid hlt
    have hk5 : k < 1000000 := by have := HCP.out.md.nd; omega
    have b0 : (0 : Int) ≤ (k : Int) := by omega
    have b1 : (k : Int) < (g.dl.length : Int) := by omega
    obtain ⟨ad, e0_, e1_, e2_, hA3, hK, p0, p1, p2⟩ := el3 (d := kDl) rfl HCP.out.gl.dl zDl k hlt
    obtain rfl : N3 = some ad := hA3
    obtain ⟨Am, cm, hcs, hcm, hM⟩ := kDl_open hK
    simp only [List.cons.injEq, and_true] at hcs
    obtain ⟨rfl, rfl, rfl⟩ := hcs
    have HM := Lib.hid hM
    have HCM := Lib.hid hcm
    have HTK := Lib.hid (show (g.dl.take (k + 1)).filter (fun d => decide ((sclB (rs.getD d.region.toNat []) ns).a ≠ 0)) = fs ++ ([g.dl.getD k zDl].filter (fun d => decide ((sclB (rs.getD d.region.toNat []) ns).a ≠ 0))) by rw [take_at g.dl k hlt zDl, List.filter_append, HFS.out])
    have hd0 := (chk_good g _ HCP.out.md.chk).dl _ (getD_at hlt zDl)
    have HFL := Lib.hid (show fs.length ≤ 2 by rw [HFS.out]; have h1 := List.length_filter_le (fun d => decide ((sclB (rs.getD d.region.toNat []) ns).a ≠ 0)) (g.dl.take k); have h2 := HCP.out.md.nd; rw [List.length_take] at h1; omega)
    generalize g.dl.getD k zDl = d at *
    obtain ⟨q, hq⟩ : ∃ q : Nat, d.region = (q : Int) := ⟨d.region.toNat, by omega⟩
    have HQ := Lib.hid hq
    have hql : q < rs.length := by have := hd0.2.1; omega
    rw [hq] at p0
    replace p0 := pw_cell_below HXR.out p0
    replace p1 := pw_cell_below HXR.out p1
    replace p2 := pw_cell_below HXR.out p2
    clear hK hM hcm hd0 hk
    obtain ⟨ar, r0, hAr, hKr, t0⟩ := el1 (d := kRg) rfl HCP.out.rr [] q hql
    obtain ⟨Ai, ci, hcs, hcl, hMr⟩ := kSl_open hKr
    simp only [List.cons.injEq, and_true] at hcs
    subst hcs
    have HMR := Lib.hid hMr
    clear hKr hMr hcl
    replace t0 := pw_cell_below HXR.out t0
    have HSC := Lib.hid (show sclB (rs.getD d.region.toNat []) ns = sclB (rs.getD q []) ns by rw [hq, Int.toNat_natCast])
    generalize rs.getD q [] = r at *
    have b2 : (0 : Int) ≤ (q : Int) := by omega
    have b3 : (q : Int) < (rs.length : Int) := by omega
    subst hAr
    go_upto_region 8 with fail
    obtain ⟨u1, gD, hw0_, hg0_, XgD_, YgD_, _⟩ := new_box wr #[.int .i64 (q : Int), .int .i64 d.adv, .slice Am d.moves.length cm] 59
    rw [hw0_, hg0_]
    have EgD := Lib.hid (show gD = wr.heap.size + 0 by omega)
    clear hw0_ hg0_
    have HXu1 := Lib.hid (YgD_.out)
    have BgD := Lib.hid (XgD_.out)
    clear XgD_ YgD_
    have hb := HXu1.out
    replace HR := Lib.hid (Kd.R_below HR.out hb)
    replace t0 := pw_cell_below hb t0
    replace HX := Lib.hid (bthen' HX.out hb)
    replace HXR := Lib.hid (bthen' HXR.out hb)
    replace BgS := Lib.hid (BgS.out.below hb)
    replace BgB := Lib.hid (BgB.out.below hb)
    replace BgG := Lib.hid (BgG.out.below hb)
    clear hb
    clear p0 p1 p2 b0 b1 HXu1
    have z0 := BgD.out.cell 0
    simp only [List.getElem?_toArray, List.getElem?_cons_zero, List.getElem?_cons_succ] at z0
    go_wp2_with fail
    refine (scalar_any r Ai ci ns Ba ca u1 (Kd.C_below HMR.out HXR.out) (Kd.C_below HCP.out.nn HXR.out)).mono ?_
    rintro e u2 ⟨rfl, hb⟩
    replace HR := Lib.hid (Kd.R_below HR.out hb)
    replace HX := Lib.hid (bthen' HX.out hb)
    replace HXR := Lib.hid (bthen' HXR.out hb)
    replace BgS := Lib.hid (BgS.out.below hb)
    replace BgB := Lib.hid (BgB.out.below hb)
    replace BgG := Lib.hid (BgG.out.below hb)
    replace BgD := Lib.hid (BgD.out.below hb)
    clear hb
    clear z0 t0 b2 b3
    have HTN := Lib.hid (show (sclB r ns).a ≠ 0 → (g.dl.take (k + 1)).filter (fun d => decide ((sclB (rs.getD d.region.toNat []) ns).a ≠ 0)) = fs ++ [d] by intro h1; rw [HTK.out, List.filter_cons_of_pos (by rw [HSC.out]; exact decide_eq_true h1), List.filter_nil])
    have HTZ := Lib.hid (show (sclB r ns).a = 0 → (g.dl.take (k + 1)).filter (fun d => decide ((sclB (rs.getD d.region.toNat []) ns).a ≠ 0)) = fs by intro h1; rw [HTK.out, List.filter_cons_of_neg (by rw [HSC.out]; simp [h1]), List.filter_nil, List.append_nil])
    clear HTK HSC HMR
    obtain ⟨sa, hsa⟩ : ∃ q, (sclB r ns).a = q := ⟨_, rfl⟩
    obtain ⟨sb, hsb⟩ : ∃ q, (sclB r ns).b = q := ⟨_, rfl⟩
    rw [hsa, hsb]
    rw [hsa] at HTN HTZ
    clear hsa hsb
    by_cases hz : sa = 0
    ·have e1 : (sa != 0) = false := by rw [hz]; rfl
     have HT := Lib.hid (HTZ.out hz)
     clear hz HTN HTZ
     go_wp2_with fail
     exact ⟨⟨k + 1, fs, Af, cf, by go_num, by have := HKL.out; omega, Lib.hid (HT.out.symm), HR, BgS, BgB, BgG, HX, HXR⟩, by have := HKL.out; simp [intOf]; omega⟩
    ·have e1 : (sa != 0) = true := by simpa using hz
     have HT := Lib.hid (HTN.out hz)
     have HDM := Lib.hid (show kDl.K v d [.int .i64 (q : Int), .int .i64 d.adv, .slice Am d.moves.length cm] from by rw [← HQ.out]; exact kDl_mk HCM.out HM.out)
     clear hz HTN HTZ
     go_upto_region 9 with fail
     have z0 := BgD.out.cell 0
     have z1 := BgD.out.cell 1
     have z2 := BgD.out.cell 2
     simp only [List.getElem?_toArray, List.getElem?_cons_zero, List.getElem?_cons_succ] at z0 z1 z2
     have y6 := BgS.out.cell 6
     simp only [List.getElem?_toArray, List.getElem?_cons_zero, List.getElem?_cons_succ] at y6
     have k6 := BgS.out.frozen 6
     go_wp2_with (at_builtin; go_loud (refine Kd.R_append (view v kDl) (W := u2) (w0 := v) v.heap.size rfl (.tmp 54) (.tmp 56) 26 59 _ 40 rfl (by kernel_rfl) infoDl rfl (show 0 < kDl.sz by decide) (by omega) (.slice Af fs.length cf) fs d [.int .i64 (q : Int), .int .i64 d.adv, .slice Am d.moves.length cm] (fun _ => True) (fun _ => False) rfl rfl HDM.out (fun _ h => h.elim) (fun _ _ => trivial) HR.out HXR.out HXR.out.size (by have := HFL.out; omega) ?_); intro v4 w4 hR4 hB4 hG4 hat4; obtain ⟨A4, c4, rfl⟩ := Kd.R_slice hR4; have HR4 := Lib.hid hR4; have HB4 := Lib.hid hB4; have BS4 := Lib.hid (show Blk w4 gS _ _ from (hG4.block gS BgS.out.lt (Kd.R_ne HR.out BgS.out (by decide))).trans BgS.out); have BB4 := Lib.hid (show Blk w4 gB _ _ from (hG4.block gB BgB.out.lt (Kd.R_ne HR.out BgB.out (by decide))).trans BgB.out); have BG4 := Lib.hid (show Blk w4 gG _ _ from (hG4.block gG BgG.out.lt (Kd.R_ne HR.out BgG.out (by decide))).trans BgG.out); have y6' := BS4.out.cell 6; simp only [List.getElem?_toArray, List.getElem?_cons_zero, List.getElem?_cons_succ] at y6'; have k6' := BS4.out.frozen 6; clear hR4 hB4 hG4 hat4 y6 k6 z0 z1 z2)
     obtain ⟨f2, hf2⟩ : ∃ f2, fs ++ [d] = f2 := ⟨_, rfl⟩
     have hlen : fs.length + 1 = f2.length := by rw [← hf2]; simp
     rw [hf2] at HT HR4
     rw [hlen]
     exact ⟨⟨k + 1, f2, A4, c4, by go_num, by have := HKL.out; omega, Lib.hid (HT.out.symm), Lib.hid (Kd.R_set HR4.out BS4.out (show ∀ q, q ∈ 59 :: ([] : List Nat) → q ≠ 29 by decide) 6 (.slice A4 f2.length c4)), Lib.hid (BS4.out.put 6 (.slice A4 f2.length c4) rfl), Lib.hid (BB4.out.far HNE.out 6 (.slice A4 f2.length c4)), Lib.hid (BG4.out.far HNG.out.2 6 (.slice A4 f2.length c4)), Lib.hid (bthen' HWB.out (bset HB4.out HLS2.out 6 (.slice A4 f2.length c4))), Lib.hid (bset HB4.out HLS2.out 6 (.slice A4 f2.length c4))⟩, by have := HKL.out; simp [intOf]; omega⟩
   ·have d1 : decide (k < g.dl.length) = false := decide_eq_false hlt
    have d2 : decide ((k : Int) < (g.dl.length : Int)) = false := decide_eq_false (by omega)
    obtain rfl : k = g.dl.length := by omega
    have hfa := HFS.out
    rw [List.take_length] at hfa
    have HFA := Lib.hid hfa
    clear hlt hk HFS hfa
    obtain ⟨ct, an, xb, xc, av, hat⟩ := AtIs.mk_ g rs ns
    obtain ⟨ct2, an2, xb2, xc2, av2, hat2⟩ := AtIs.mk_ g.bare rs ns
    have HAT := Lib.hid hat
    have HAT2 := Lib.hid hat2
    have HLN := Lib.hid (hat.lens HCP.out.md)
    have HLN2 := Lib.hid (hat2.lens (md_bare HCP.out.md))
    have HSA := Lib.hid (show AtIs ⟨g.ct, g.an, g.hang, g.adv, fs, g.pr⟩ rs ns ct an xb xc av ∧ MdOk rs.length ⟨g.ct, g.an, g.hang, g.adv, fs, g.pr⟩ from by rw [HFA.out]; exact ⟨hat.some_, md_some HCP.out.md rs ns⟩)
    clear hat hat2 HFA
    have HSO := Lib.hid (show GlR wr ⟨g.ct, g.an, g.hang, g.adv, fs, g.pr⟩ ⟨N1, n1, N2, n2, Af, cf, N4, n4⟩ from ⟨Kd.C_below HCP.out.gl.ct HXR.out, Kd.C_below HCP.out.gl.an HXR.out, C_of_view (Sc_len HR.out) HXR.out, Kd.C_below HCP.out.gl.pr HXR.out, HCP.out.gl.l1, HCP.out.gl.l2, (Kd.R_reads' HR.out).2.1, HCP.out.gl.l4⟩)
    have HBO := Lib.hid (show GlR wr g.bare ⟨N1, n1, N2, n2, none, 0, N4, n4⟩ from ⟨Kd.C_below HCP.out.gl.ct HXR.out, Kd.C_below HCP.out.gl.an HXR.out, Kd.C_nil _ _, Kd.C_below HCP.out.gl.pr HXR.out, HCP.out.gl.l1, HCP.out.gl.l2, Nat.le_refl 0, HCP.out.gl.l4⟩)
    clear HR
    have d0 := BgG.out.cell 0
    have d1 := BgG.out.cell 1
    have d2 := BgG.out.cell 2
    have d3 := BgG.out.cell 3
    have d4 := BgG.out.cell 4
    have d5 := BgG.out.cell 5
    have d6 := BgG.out.cell 6
    have d7 := BgG.out.cell 7
    simp only [List.getElem?_toArray, List.getElem?_cons_zero, List.getElem?_cons_succ] at d0 d1 d2 d3 d4 d5 d6 d7
    go_wp2_with fail
    refine (at_ok g ⟨N1, n1, N2, n2, N3, n3, N4, n4⟩ rs Ar cr ns Ba ca wr ct an xb xc av g.hang.a rfl HAT.out (HCP.out.gl.below HXR.out) HCP.out.md (case_E HCP.out g (HCP.out.md).chk) (Kd.C_below HCP.out.rr HXR.out) (Kd.C_below HCP.out.nn HXR.out) (by have := HCP.out.rl; omega) (by have := HCP.out.n3; omega)).mono ?_
    rintro e v5 ⟨B1, k1, B2, k2, rfl, hc, ha, hb⟩
    replace HX := Lib.hid (bthen' HX.out hb)
    replace HXR := Lib.hid (bthen' HXR.out hb)
    replace BgS := Lib.hid (BgS.out.below hb)
    replace BgB := Lib.hid (BgB.out.below hb)
    replace BgG := Lib.hid (BgG.out.below hb)
    replace HSO := Lib.hid (HSO.out.below hb)
    replace HBO := Lib.hid (HBO.out.below hb)
    clear hb
    have HC1 := Lib.hid hc
    have HA1 := Lib.hid ha
    clear hc ha d0 d1 d2 d3 d4 d5 d6 d7
    go_upto_region 12 with fail
    obtain ⟨v6, gW, hw0_, hg0_, XgW_, YgW_, _⟩ := new_box v5 #[.slice B1 ct.length k1, .slice B2 an.length k2, .int .i64 g.hang.a, .int .i64 xb, .int .i64 xc, .int .i64 av] 51
    rw [hw0_, hg0_]
    have EgW := Lib.hid (show gW = v5.heap.size + 0 by omega)
    clear hw0_ hg0_
    have HXv6 := Lib.hid (YgW_.out)
    have BgW := Lib.hid (XgW_.out)
    clear XgW_ YgW_
    have hb := HXv6.out
    replace HC1 := Lib.hid (Kd.C_below HC1.out hb)
    replace HA1 := Lib.hid (Kd.C_below HA1.out hb)
    replace HX := Lib.hid (bthen' HX.out hb)
    replace HXR := Lib.hid (bthen' HXR.out hb)
    replace BgS := Lib.hid (BgS.out.below hb)
    replace BgB := Lib.hid (BgB.out.below hb)
    replace BgG := Lib.hid (BgG.out.below hb)
    replace HSO := Lib.hid (HSO.out.below hb)
    replace HBO := Lib.hid (HBO.out.below hb)
    clear hb
    clear HXv6
    have d0 := BgB.out.cell 0
    have d1 := BgB.out.cell 1
    have d2 := BgB.out.cell 2
    have d3 := BgB.out.cell 3
    have d4 := BgB.out.cell 4
    have d5 := BgB.out.cell 5
    have d6 := BgB.out.cell 6
    have d7 := BgB.out.cell 7
    simp only [List.getElem?_toArray, List.getElem?_cons_zero, List.getElem?_cons_succ] at d0 d1 d2 d3 d4 d5 d6 d7
    go_wp2_with fail
    refine (at_ok g.bare ⟨N1, n1, N2, n2, none, 0, N4, n4⟩ rs Ar cr ns Ba ca v6 ct2 an2 xb2 xc2 av2 g.hang.a rfl HAT2.out HBO.out (md_bare HCP.out.md) (case_E HCP.out g.bare ((md_bare HCP.out.md)).chk) (Kd.C_below HCP.out.rr HXR.out) (Kd.C_below HCP.out.nn HXR.out) (by have := HCP.out.rl; omega) (by have := HCP.out.n3; omega)).mono ?_
    rintro e v7 ⟨B3, k3, B4, k4, rfl, hc, ha, hb⟩
    replace HC1 := Lib.hid (Kd.C_below HC1.out hb)
    replace HA1 := Lib.hid (Kd.C_below HA1.out hb)
    replace HX := Lib.hid (bthen' HX.out hb)
    replace HXR := Lib.hid (bthen' HXR.out hb)
    replace BgS := Lib.hid (BgS.out.below hb)
    replace BgG := Lib.hid (BgG.out.below hb)
    replace HSO := Lib.hid (HSO.out.below hb)
    replace BgW := Lib.hid (BgW.out.below hb)
    clear hb
    have HC2 := Lib.hid hc
    have HA2 := Lib.hid ha
    clear hc ha d0 d1 d2 d3 d4 d5 d6 d7
    go_upto_region 13 with fail
    obtain ⟨v8, gL, hw0_, hg0_, XgL_, YgL_, _⟩ := new_box v7 #[.slice B3 ct2.length k3, .slice B4 an2.length k4, .int .i64 g.hang.a, .int .i64 xb2, .int .i64 xc2, .int .i64 av2] 51
    rw [hw0_, hg0_]
    have EgL := Lib.hid (show gL = v7.heap.size + 0 by omega)
    clear hw0_ hg0_
    have HXv8 := Lib.hid (YgL_.out)
    have BgL := Lib.hid (XgL_.out)
    clear XgL_ YgL_
    have hb := HXv8.out
    replace HC1 := Lib.hid (Kd.C_below HC1.out hb)
    replace HA1 := Lib.hid (Kd.C_below HA1.out hb)
    replace HC2 := Lib.hid (Kd.C_below HC2.out hb)
    replace HA2 := Lib.hid (Kd.C_below HA2.out hb)
    replace HX := Lib.hid (bthen' HX.out hb)
    replace HXR := Lib.hid (bthen' HXR.out hb)
    replace BgS := Lib.hid (BgS.out.below hb)
    replace BgG := Lib.hid (BgG.out.below hb)
    replace HSO := Lib.hid (HSO.out.below hb)
    replace BgW := Lib.hid (BgW.out.below hb)
    clear hb
    clear HXv8
    have d0 := BgS.out.cell 0
    have d1 := BgS.out.cell 1
    have d2 := BgS.out.cell 2
    have d3 := BgS.out.cell 3
    have d4 := BgS.out.cell 4
    have d5 := BgS.out.cell 5
    have d6 := BgS.out.cell 6
    have d7 := BgS.out.cell 7
    simp only [List.getElem?_toArray, List.getElem?_cons_zero, List.getElem?_cons_succ] at d0 d1 d2 d3 d4 d5 d6 d7
    go_wp2_with fail
    refine (at_ok ⟨g.ct, g.an, g.hang, g.adv, fs, g.pr⟩ ⟨N1, n1, N2, n2, Af, cf, N4, n4⟩ rs Ar cr ns Ba ca v8 ct an xb xc av g.hang.a rfl HSA.out.1 HSO.out HSA.out.2 (case_E HCP.out ⟨g.ct, g.an, g.hang, g.adv, fs, g.pr⟩ (HSA.out.2).chk) (Kd.C_below HCP.out.rr HXR.out) (Kd.C_below HCP.out.nn HXR.out) (by have := HCP.out.rl; omega) (by have := HCP.out.n3; omega)).mono ?_
    rintro e v9 ⟨B5, k5, B6, k6, rfl, hc, ha, hb⟩
    replace HC1 := Lib.hid (Kd.C_below HC1.out hb)
    replace HA1 := Lib.hid (Kd.C_below HA1.out hb)
    replace HC2 := Lib.hid (Kd.C_below HC2.out hb)
    replace HA2 := Lib.hid (Kd.C_below HA2.out hb)
    replace HX := Lib.hid (bthen' HX.out hb)
    replace HXR := Lib.hid (bthen' HXR.out hb)
    replace BgG := Lib.hid (BgG.out.below hb)
    replace BgW := Lib.hid (BgW.out.below hb)
    replace BgL := Lib.hid (BgL.out.below hb)
    clear hb
    have HC3 := Lib.hid hc
    have HA3 := Lib.hid ha
    clear hc ha d0 d1 d2 d3 d4 d5 d6 d7
    go_upto_region 14 with fail
    obtain ⟨v10, gZ, hw0_, hg0_, XgZ_, YgZ_, _⟩ := new_box v9 #[.slice B5 ct.length k5, .slice B6 an.length k6, .int .i64 g.hang.a, .int .i64 xb, .int .i64 xc, .int .i64 av] 51
    rw [hw0_, hg0_]
    have EgZ := Lib.hid (show gZ = v9.heap.size + 0 by omega)
    clear hw0_ hg0_
    have HXv10 := Lib.hid (YgZ_.out)
    have BgZ := Lib.hid (XgZ_.out)
    clear XgZ_ YgZ_
    have hb := HXv10.out
    replace HC1 := Lib.hid (Kd.C_below HC1.out hb)
    replace HA1 := Lib.hid (Kd.C_below HA1.out hb)
    replace HC2 := Lib.hid (Kd.C_below HC2.out hb)
    replace HA2 := Lib.hid (Kd.C_below HA2.out hb)
    replace HC3 := Lib.hid (Kd.C_below HC3.out hb)
    replace HA3 := Lib.hid (Kd.C_below HA3.out hb)
    replace HX := Lib.hid (bthen' HX.out hb)
    replace HXR := Lib.hid (bthen' HXR.out hb)
    replace BgG := Lib.hid (BgG.out.below hb)
    replace BgW := Lib.hid (BgW.out.below hb)
    replace BgL := Lib.hid (BgL.out.below hb)
    clear hb
    clear HXv10
    have HADD := Lib.hid (adds_is HCP.out.md HAT.out HAT2.out)
    obtain ⟨xs, hxs⟩ : ∃ q, numL ct an xb xc av = q := ⟨_, rfl⟩
    obtain ⟨ys, hys⟩ : ∃ q, numL ct2 an2 xb2 xc2 av2 = q := ⟨_, rfl⟩
    have HXS := Lib.hid hxs
    have HYS := Lib.hid hys
    rw [hxs, hys] at HADD
    clear hxs hys
    refine start_ (n := 6) (S := fun w' => True) (ds := []) #[false, false, false, false, false, false] (by kernel_rfl) rfl rfl trivial (fun hHeld => ?_)
    refine with_tabW oAd14.tab14 oAd14.bits14 (fun HT_ HW_ => ?_)
    have HB : Aside0 (Below v10.heap.size v10 v10.drew) := ⟨bdrew (Below.refl _ _)⟩
    have BW : Aside0 (Blk v10.drew gW #[.slice B1 ct.length k1, .slice B2 an.length k2, .int .i64 g.hang.a, .int .i64 xb, .int .i64 xc, .int .i64 av] 51) := ⟨BgW.out.drew⟩
    have BL : Aside0 (Blk v10.drew gL #[.slice B3 ct2.length k3, .slice B4 an2.length k4, .int .i64 g.hang.a, .int .i64 xb2, .int .i64 xc2, .int .i64 av2] 51) := ⟨BgL.out.drew⟩
    generalize hwd : v10.drew = w1' at *
    clear hwd
    refine inv_at [0, 1, 2, 3, 4, 5] (fun a0_ b a w' => ∃ (Na : Option Addr) (na : Nat) (Nb : Option Addr) (nb : Nat) (m1_ : Value) (m3_ : Value) (m4_ : Value) (m5_ : Value), a = putSel a0_ b [(0, 81, .agg #[.slice B1 ct.length k1, .slice B2 an.length k2, .int .i64 g.hang.a, .int .i64 xb, .int .i64 xc, .int .i64 av]), (1, 82, m1_), (2, 83, .agg #[.slice B3 ct2.length k3, .slice B4 an2.length k4, .int .i64 g.hang.a, .int .i64 xb2, .int .i64 xc2, .int .i64 av2]), (3, 84, m3_), (4, 17, m4_), (5, 18, m5_)] ∧ (Below v10.heap.size v10 w') ∧ (Blk w' gW #[.slice B1 ct.length k1, .slice B2 an.length k2, .int .i64 g.hang.a, .int .i64 xb, .int .i64 xc, .int .i64 av] 51) ∧ (Blk w' gL #[.slice B3 ct2.length k3, .slice B4 an2.length k4, .int .i64 g.hang.a, .int .i64 xb2, .int .i64 xc2, .int .i64 av2] 51) ∧ (b 1 = true → Kd.R kI 3 w' v10.heap.size (fun _ => True) (.slice Na xs.length na) xs) ∧ (b 3 = true → Kd.R kI 3 w' v10.heap.size (fun _ => True) (.slice Nb ys.length nb) ys) ∧ (b 1 = true → (m1_ : Value) = .slice Na xs.length na) ∧ (b 3 = true → (m3_ : Value) = .slice Nb ys.length nb) ∧ (b 4 = true → (m4_ : Value) = .slice Na xs.length na) ∧ (b 5 = true → (m5_ : Value) = .slice Nb ys.length nb)) HT_.out HW_.out (by kernel_rfl) (by kernel_rfl) ?_ ?_ ?_
    ·exact ⟨none, 0, none, 0, .bool false, .bool false, .bool false, .bool false, by simp only [putSel, Bool.false_eq_true, if_false], HB.out, BW.out, BL.out, fun h_ => absurd h_ (by decide), fun h_ => absurd h_ (by decide), fun h_ => absurd h_ (by decide), fun h_ => absurd h_ (by decide), fun h_ => absurd h_ (by decide), fun h_ => absurd h_ (by decide)⟩
    ·skip
     clear BL BW HB
     refine steps_cons ?_ ?_
     ·rintro b a w' ⟨Na, na, Nb, nb, m1_, m3_, m4_, m5_, ha, Q_HB, Q_BW, Q_BL, Q_RA, Q_RB, Q_X1_, Q_X3_, Q_X4_, Q_X5_⟩ hb_ hon hoff
      refine ⟨_, rfl, fun K hK => ?_⟩
      have e11 : a.tmps[11]? = some (.pointer (some ⟨gW, 0, none⟩)) := by rw [ha]; exact (putSel_off rfl).trans rfl
      replace ha := Aside0.mk ha
      have HB := Aside0.mk Q_HB
      have BW := Aside0.mk Q_BW
      have BL := Aside0.mk Q_BL
      have z0 := BW.out.cell 0
      have z1 := BW.out.cell 1
      have z2 := BW.out.cell 2
      have z3 := BW.out.cell 3
      have z4 := BW.out.cell 4
      have z5 := BW.out.cell 5
      refine value_ (w1 := w') (v := .agg #[.slice B1 ct.length k1, .slice B2 an.length k2, .int .i64 g.hang.a, .int .i64 xb, .int .i64 xc, .int .i64 av]) (by rfl) rfl ?_ ?_
      ·go_simp
       (try simp only [i64_w])
       try rfl
       try assumption
      refine hK.out _ _ ⟨Na, na, Nb, nb, m1_, m3_, m4_, m5_, (by rw [ha.out]; exact putSel_upk 0 hb_ rfl rfl rfl), Q_HB, Q_BW, Q_BL, fun h0_ => absurd ((hoff 1 (by kernel_rfl)).symm.trans h0_) (by decide), fun h0_ => absurd ((hoff 3 (by kernel_rfl)).symm.trans h0_) (by decide), fun h0_ => absurd ((hoff 1 (by kernel_rfl)).symm.trans h0_) (by decide), fun h0_ => absurd ((hoff 3 (by kernel_rfl)).symm.trans h0_) (by decide), fun h0_ => absurd ((hoff 4 (by kernel_rfl)).symm.trans h0_) (by decide), fun h0_ => absurd ((hoff 5 (by kernel_rfl)).symm.trans h0_) (by decide)⟩
     refine steps_cons ?_ ?_
     ·rintro b a w' ⟨Na, na, Nb, nb, m1_, m3_, m4_, m5_, ha, Q_HB, Q_BW, Q_BL, Q_RA, Q_RB, Q_X1_, Q_X3_, Q_X4_, Q_X5_⟩ hb_ hon hoff
      refine ⟨_, rfl, fun K hK => ?_⟩
      have e81 : a.tmps[81]? = some (.agg #[.slice B1 ct.length k1, .slice B2 an.length k2, .int .i64 g.hang.a, .int .i64 xb, .int .i64 xc, .int .i64 av]) := by rw [ha]; exact putSel_on (e := (0, 81, .agg #[.slice B1 ct.length k1, .slice B2 an.length k2, .int .i64 g.hang.a, .int .i64 xb, .int .i64 xc, .int .i64 av])) 0 rfl rfl (hon 0 (by kernel_rfl)) rfl
      replace ha := Aside0.mk ha
      have HB := Aside0.mk Q_HB
      have BW := Aside0.mk Q_BW
      have BL := Aside0.mk Q_BL
      refine call_ 15 #[.agg #[.slice B1 ct.length k1, .slice B2 an.length k2, .int .i64 g.hang.a, .int .i64 xb, .int .i64 xc, .int .i64 av]] (by rfl) rfl ?_ ?_
      ·go_simp
      refine (numbers_any ct an g.hang.a xb xc av B1 B2 k1 k2 w' HLN.out.l1 HLN.out.l2 HLN.out.l3 HLN.out.l4 (Kd.C_below HC1.out HB.out) (Kd.C_below HA1.out HB.out)).mono ?_
      rintro e w2' ⟨v0, rfl, hr, hb⟩
      rw [HXS.out] at hr
      obtain ⟨Na0, na0, rfl⟩ := Kd.R_slice hr
      refine ⟨_, rfl, ?_⟩
      refine hK.out _ _ ⟨Na0, na0, Nb, nb, (.slice Na0 xs.length na0), m3_, m4_, m5_, (by rw [ha.out]; exact putSel_upk 1 hb_ rfl rfl rfl), bthen' HB.out hb, BW.out.below hb, BL.out.below hb, fun _ => Kd.R_lower hr HB.out.size, fun h0_ => absurd ((hoff 3 (by kernel_rfl)).symm.trans h0_) (by decide), fun _ => rfl, fun h0_ => absurd ((hoff 3 (by kernel_rfl)).symm.trans h0_) (by decide), fun h0_ => absurd ((hoff 4 (by kernel_rfl)).symm.trans h0_) (by decide), fun h0_ => absurd ((hoff 5 (by kernel_rfl)).symm.trans h0_) (by decide)⟩
     refine steps_cons ?_ ?_
     ·rintro b a w' ⟨Na, na, Nb, nb, m1_, m3_, m4_, m5_, ha, Q_HB, Q_BW, Q_BL, Q_RA, Q_RB, Q_X1_, Q_X3_, Q_X4_, Q_X5_⟩ hb_ hon hoff
      refine ⟨_, rfl, fun K hK => ?_⟩
      have e13 : a.tmps[13]? = some (.pointer (some ⟨gL, 0, none⟩)) := by rw [ha]; exact (putSel_off rfl).trans rfl
      replace ha := Aside0.mk ha
      have HB := Aside0.mk Q_HB
      have BW := Aside0.mk Q_BW
      have BL := Aside0.mk Q_BL
      have z0 := BL.out.cell 0
      have z1 := BL.out.cell 1
      have z2 := BL.out.cell 2
      have z3 := BL.out.cell 3
      have z4 := BL.out.cell 4
      have z5 := BL.out.cell 5
      refine value_ (w1 := w') (v := .agg #[.slice B3 ct2.length k3, .slice B4 an2.length k4, .int .i64 g.hang.a, .int .i64 xb2, .int .i64 xc2, .int .i64 av2]) (by rfl) rfl ?_ ?_
      ·go_simp
       (try simp only [i64_w])
       try rfl
       try assumption
      refine hK.out _ _ ⟨Na, na, Nb, nb, m1_, m3_, m4_, m5_, (by rw [ha.out]; exact putSel_upk 2 hb_ rfl rfl rfl), Q_HB, Q_BW, Q_BL, Q_RA, fun h0_ => absurd ((hoff 3 (by kernel_rfl)).symm.trans h0_) (by decide), Q_X1_, fun h0_ => absurd ((hoff 3 (by kernel_rfl)).symm.trans h0_) (by decide), fun h0_ => absurd ((hoff 4 (by kernel_rfl)).symm.trans h0_) (by decide), fun h0_ => absurd ((hoff 5 (by kernel_rfl)).symm.trans h0_) (by decide)⟩
     refine steps_cons ?_ ?_
     ·rintro b a w' ⟨Na, na, Nb, nb, m1_, m3_, m4_, m5_, ha, Q_HB, Q_BW, Q_BL, Q_RA, Q_RB, Q_X1_, Q_X3_, Q_X4_, Q_X5_⟩ hb_ hon hoff
      refine ⟨_, rfl, fun K hK => ?_⟩
      have e83 : a.tmps[83]? = some (.agg #[.slice B3 ct2.length k3, .slice B4 an2.length k4, .int .i64 g.hang.a, .int .i64 xb2, .int .i64 xc2, .int .i64 av2]) := by rw [ha]; exact putSel_on (e := (2, 83, .agg #[.slice B3 ct2.length k3, .slice B4 an2.length k4, .int .i64 g.hang.a, .int .i64 xb2, .int .i64 xc2, .int .i64 av2])) 2 rfl rfl (hon 2 (by kernel_rfl)) rfl
      replace ha := Aside0.mk ha
      have HB := Aside0.mk Q_HB
      have BW := Aside0.mk Q_BW
      have BL := Aside0.mk Q_BL
      have RA := Aside0.mk (Q_RA (hon 1 (by kernel_rfl)))
      refine call_ 15 #[.agg #[.slice B3 ct2.length k3, .slice B4 an2.length k4, .int .i64 g.hang.a, .int .i64 xb2, .int .i64 xc2, .int .i64 av2]] (by rfl) rfl ?_ ?_
      ·go_simp
      refine (numbers_any ct2 an2 g.hang.a xb2 xc2 av2 B3 B4 k3 k4 w' HLN2.out.l1 HLN2.out.l2 HLN2.out.l3 HLN2.out.l4 (Kd.C_below HC2.out HB.out) (Kd.C_below HA2.out HB.out)).mono ?_
      rintro e w2' ⟨v0, rfl, hr, hb⟩
      rw [HYS.out] at hr
      obtain ⟨Nb0, nb0, rfl⟩ := Kd.R_slice hr
      refine ⟨_, rfl, ?_⟩
      refine hK.out _ _ ⟨Na, na, Nb0, nb0, m1_, (.slice Nb0 ys.length nb0), m4_, m5_, (by rw [ha.out]; exact putSel_upk 3 hb_ rfl rfl rfl), bthen' HB.out hb, BW.out.below hb, BL.out.below hb, fun _ => Kd.R_below RA.out hb, fun _ => Kd.R_lower hr HB.out.size, Q_X1_, fun _ => rfl, fun h0_ => absurd ((hoff 4 (by kernel_rfl)).symm.trans h0_) (by decide), fun h0_ => absurd ((hoff 5 (by kernel_rfl)).symm.trans h0_) (by decide)⟩
     refine steps_cons ?_ ?_
     ·rintro b a w' ⟨Na, na, Nb, nb, m1_, m3_, m4_, m5_, ha, Q_HB, Q_BW, Q_BL, Q_RA, Q_RB, Q_X1_, Q_X3_, Q_X4_, Q_X5_⟩ hb_ hon hoff
      refine ⟨_, rfl, fun K hK => ?_⟩
      have e82 : a.tmps[82]? = some (m1_) := by rw [ha]; exact putSel_on (e := (1, 82, m1_)) 1 rfl rfl (hon 1 (by kernel_rfl)) rfl
      rw [Q_X1_ (hon 1 (by kernel_rfl))] at e82
      replace ha := Aside0.mk ha
      have HB := Aside0.mk Q_HB
      have BW := Aside0.mk Q_BW
      have BL := Aside0.mk Q_BL
      have RA := Aside0.mk (Q_RA (hon 1 (by kernel_rfl)))
      have RB := Aside0.mk (Q_RB (hon 3 (by kernel_rfl)))
      refine value_ (w1 := w') (v := .slice Na xs.length na) (by rfl) rfl ?_ ?_
      ·go_simp
       (try simp only [i64_w])
       try rfl
       try assumption
      refine hK.out _ _ ⟨Na, na, Nb, nb, m1_, m3_, (.slice Na xs.length na), m5_, (by rw [ha.out]; exact putSel_upk 4 hb_ rfl rfl rfl), Q_HB, Q_BW, Q_BL, Q_RA, Q_RB, Q_X1_, Q_X3_, fun _ => rfl, fun h0_ => absurd ((hoff 5 (by kernel_rfl)).symm.trans h0_) (by decide)⟩
     refine steps_cons ?_ ?_
     ·rintro b a w' ⟨Na, na, Nb, nb, m1_, m3_, m4_, m5_, ha, Q_HB, Q_BW, Q_BL, Q_RA, Q_RB, Q_X1_, Q_X3_, Q_X4_, Q_X5_⟩ hb_ hon hoff
      refine ⟨_, rfl, fun K hK => ?_⟩
      have e84 : a.tmps[84]? = some (m3_) := by rw [ha]; exact putSel_on (e := (3, 84, m3_)) 3 rfl rfl (hon 3 (by kernel_rfl)) rfl
      rw [Q_X3_ (hon 3 (by kernel_rfl))] at e84
      replace ha := Aside0.mk ha
      have HB := Aside0.mk Q_HB
      have BW := Aside0.mk Q_BW
      have BL := Aside0.mk Q_BL
      have RA := Aside0.mk (Q_RA (hon 1 (by kernel_rfl)))
      have RB := Aside0.mk (Q_RB (hon 3 (by kernel_rfl)))
      refine value_ (w1 := w') (v := .slice Nb ys.length nb) (by rfl) rfl ?_ ?_
      ·go_simp
       (try simp only [i64_w])
       try rfl
       try assumption
      refine hK.out _ _ ⟨Na, na, Nb, nb, m1_, m3_, m4_, (.slice Nb ys.length nb), (by rw [ha.out]; exact putSel_upk 5 hb_ rfl rfl rfl), Q_HB, Q_BW, Q_BL, Q_RA, Q_RB, Q_X1_, Q_X3_, Q_X4_, fun _ => rfl⟩
     exact steps_nil
    ·rintro b a w' hall ⟨Na, na, Nb, nb, m1_, m3_, m4_, m5_, ha, Q_HB, Q_BW, Q_BL, Q_RA, Q_RB, Q_X1_, Q_X3_, Q_X4_, Q_X5_⟩
     clear BL BW HB
     have hb0_ := hall 0 (by kernel_rfl)
     have hb1_ := hall 1 (by kernel_rfl)
     have hb2_ := hall 2 (by kernel_rfl)
     have hb3_ := hall 3 (by kernel_rfl)
     have hb4_ := hall 4 (by kernel_rfl)
     have hb5_ := hall 5 (by kernel_rfl)
     subst ha
     obtain rfl := Q_X1_ hb1_
     obtain rfl := Q_X3_ hb3_
     obtain rfl := Q_X4_ hb4_
     obtain rfl := Q_X5_ hb5_
     simp only [putSel, hb0_, hb1_, hb2_, hb3_, hb4_, hb5_, if_true, Act.put, List.setIfInBounds_toArray, List.set_cons_zero, List.set_cons_succ]
     have HB := Aside0.mk Q_HB
     clear Q_HB
     have BW := Aside0.mk Q_BW
     clear Q_BW
     have BL := Aside0.mk Q_BL
     clear Q_BL
     have RA := Aside0.mk (Q_RA hb1_)
     clear Q_RA
     have RB := Aside0.mk (Q_RB hb3_)
     clear Q_RB
     clear hall hb0_ hb1_ hb2_ hb3_ hb4_ hb5_
     generalize w' = v11 at *
     have hb := HB.out
     replace HXR := Lib.hid (bthen' HXR.out hb)
     replace BgG := Lib.hid (BgG.out.below hb)
     replace BgZ := Lib.hid (BgZ.out.below hb)
     replace BgW := Lib.hid BW.out
     replace HC1 := Lib.hid (Kd.C_below HC1.out hb)
     replace HA1 := Lib.hid (Kd.C_below HA1.out hb)
     replace HC3 := Lib.hid (Kd.C_below HC3.out hb)
     replace HA3 := Lib.hid (Kd.C_below HA3.out hb)
     have CA := Lib.hid (Sc_len RA.out)
     have CB := Lib.hid (Sc_len RB.out)
     clear hb HB BW BL RA RB HC2 HA2 HW_ HT_ HXS HYS BgL HAT HAT2 HLN HLN2 HX
     have y0 := BgW.out.cell 0
     have y1 := BgW.out.cell 1
     have y2 := BgW.out.cell 2
     have y3 := BgW.out.cell 3
     have y4 := BgW.out.cell 4
     have y5 := BgW.out.cell 5
     simp only [List.getElem?_toArray, List.getElem?_cons_zero, List.getElem?_cons_succ] at y0 y1 y2 y3 y4 y5
     have z0 := BgZ.out.cell 0
     have z1 := BgZ.out.cell 1
     have z2 := BgZ.out.cell 2
     have z3 := BgZ.out.cell 3
     have z4 := BgZ.out.cell 4
     have z5 := BgZ.out.cell 5
     simp only [List.getElem?_toArray, List.getElem?_cons_zero, List.getElem?_cons_succ] at z0 z1 z2 z3 z4 z5
     go_wp2_with fail
     refine (rfSameD_any ⟨ct, an, ⟨g.hang.a, xb, xc⟩, av⟩ ⟨ct, an, ⟨g.hang.a, xb, xc⟩, av⟩ B1 B2 B5 B6 k1 k2 k5 k6 v11 HC1.out HA1.out HC3.out HA3.out).mono ?_
     rintro e v12 ⟨rfl, hb⟩
     have hsd : sameDnB ⟨ct, an, ⟨g.hang.a, xb, xc⟩, av⟩ ⟨ct, an, ⟨g.hang.a, xb, xc⟩, av⟩ = true := by simp [sameDnB]
     rw [hsd]
     clear hsd y0 y1 y2 y3 y4 y5 z0 z1 z2 z3 z4 z5
     replace HXR := Lib.hid (bthen' HXR.out hb)
     replace BgG := Lib.hid (BgG.out.below hb)
     replace CA := Lib.hid (Kd.C_below CA.out hb)
     replace CB := Lib.hid (Kd.C_below CB.out hb)
     clear hb HC1 HA1 HC3 HA3 BgW BgZ
     have hlx := HADD.out.lx
     have hly := HADD.out.ly
     have hpt : g.pts ≤ 2000000 := by have h1 := (chk_good g _ HCP.out.md.chk); have h2 := h1.nc; have h3 := h1.np; omega
     have m1 : IntKind.i64.wrap (2 * (g.pts : Int)) = 2 * (g.pts : Int) := IntWalk.i64_in _ (by omega)
     have m2 : IntKind.i64.wrap (2 * (g.pts : Int) + 1) = 2 * (g.pts : Int) + 1 := IntWalk.i64_in _ (by omega)
     have hne : ((xs.length : Int) != (ys.length : Int)) = false := by rw [hlx, hly]; simp
     have hne2 : (xs.length != ys.length) = false := by rw [hlx, hly]; simp
     have hne3 : ((xs.length : Int) != 2 * (g.pts : Int) + 1) = false := by rw [hlx]; simp
     have HLX := Lib.hid hlx
     have HLY := Lib.hid hly
     have HPT := Lib.hid hpt
     clear hlx hly hpt
     have d0 := BgG.out.cell 0
     have d1 := BgG.out.cell 1
     have d2 := BgG.out.cell 2
     have d3 := BgG.out.cell 3
     have d4 := BgG.out.cell 4
     have d5 := BgG.out.cell 5
     have d6 := BgG.out.cell 6
     have d7 := BgG.out.cell 7
     simp only [List.getElem?_toArray, List.getElem?_cons_zero, List.getElem?_cons_succ] at d0 d1 d2 d3 d4 d5 d6 d7
     go_wp2_with fail
     refine (rfPoints_any g ⟨N1, n1, N2, n2, N3, n3, N4, n4⟩ v12 (HCP.out.gl.below HXR.out) (by have h1 := (chk_good g _ HCP.out.md.chk).nc; omega) (by have h1 := (chk_good g _ HCP.out.md.chk).na; omega) (by have h1 := (chk_good g _ HCP.out.md.chk).np; unfold Gl.pts at h1; omega)).mono ?_
     rintro e v13 ⟨rfl, hb⟩
     replace HXR := Lib.hid (bthen' HXR.out hb)
     replace BgG := Lib.hid (BgG.out.below hb)
     replace CA := Lib.hid (Kd.C_below CA.out hb)
     replace CB := Lib.hid (Kd.C_below CB.out hb)
     clear hb d0 d3 d4 d5 d6 d7
     go_wp2_with fail
     go_loopw [119] (fun i wr => ∃ (k : Nat), i = .int .i64 (k : Int) ∧ k ≤ xs.length ∧ Hid (Below v.heap.size v wr) ∧ Hid (Kd.C kI wr Na xs.length xs) ∧ Hid (Kd.C kI wr Nb ys.length ys) ∧ Hid (Blk wr gG #[.slice N1 g.ct.length n1, .slice N2 g.an.length n2, .int .i64 g.hang.a, .int .i64 g.hang.b, .int .i64 g.hang.c, .int .i64 g.adv, .slice N3 g.dl.length n3, .slice N4 g.pr.length n4] 29)) (fun i _ => xs.length - (intOf i).toNat)
     case atStart => exact ⟨0, rfl, Nat.zero_le _, HXR, CA, CB, BgG⟩
     case round =>
      clear HXR CA CB BgG
      obtain ⟨k, rfl, hk, HXR, CA, CB, BgG⟩ := hrel
      by_cases hlt : k < xs.length
      ·have d1 : decide (k < xs.length) = true := decide_eq_true hlt
       have d2 : decide ((k : Int) < (xs.length : Int)) = true := decide_eq_true (by omega)
       have HKL := Lib.hid hlt
       have hkp : k < 2 * g.pts + 1 := by rw [← HLX.out]; exact hlt
       have hk9 : k < 5000000 := by have := HPT.out; omega
       obtain ⟨SK, hS0, hS1, hS2, hS3⟩ := adds_loop HCP.out.md HADD.out k hkp
       obtain ⟨ad, hNa, pcA⟩ := cellsI CA.out (by omega)
       obtain ⟨bd, hNb, pcB⟩ := cellsI CB.out (by have := HLX.out; have := HLY.out; omega)
       subst hNa hNb
       have pa := pcA k hlt
       have pb := pcB k (by have := HLX.out; have := HLY.out; omega)
       rw [hS1] at pa
       rw [hS0] at pb
       have HS1 := Lib.hid hS1
       have HS2 := Lib.hid hS2
       have HS3 := Lib.hid hS3
       have bk0 : (0 : Int) ≤ (k : Int) := by omega
       have bk1 : (k : Int) < (xs.length : Int) := by omega
       have bk2 : (k : Int) < (ys.length : Int) := by have := HLX.out; have := HLY.out; omega
       have d6 := BgG.out.cell 6
       simp only [List.getElem?_toArray, List.getElem?_cons_zero, List.getElem?_cons_succ] at d6
       clear pcA pcB hS0 hS1 hS2 hS3
       go_wp2_with fail
       clear d6 pb
       have HPA := Lib.hid pa
       clear pa
       generalize wr = wo at *
       have HBO_ := Lib.hid (Below.refl wo.heap.size wo)
       go_loopw [129, 20] (fun i s wr => ∃ (j : Nat), i = .int .i64 (j : Int) ∧ j ≤ g.dl.length ∧ s = .int .i64 (SK j) ∧ Hid (Below wo.heap.size wo wr)) (fun i _ _ => g.dl.length - (intOf i).toNat)
       case atStart => exact ⟨0, rfl, Nat.zero_le _, rfl, HBO_⟩
       case round =>
        clear HBO_
        obtain ⟨j, rfl, hj, rfl, HBO_⟩ := hrel
        by_cases hjt : j < g.dl.length
        ·have d3 : decide (j < g.dl.length) = true := decide_eq_true hjt
         have d4 : decide ((j : Int) < (g.dl.length : Int)) = true := decide_eq_true (by omega)
         have HJL := Lib.hid hjt
         have hj5 : j < 1000000 := by have := HCP.out.md.nd; omega
         have b0 : (0 : Int) ≤ (j : Int) := by omega
         have b1 : (j : Int) < (g.dl.length : Int) := by omega
         have HXI := Lib.hid (bthen' HXR.out HBO_.out)
         obtain ⟨dd, e0_, e1_, e2_, hA3, hK, p0, p1, p2⟩ := el3 (d := kDl) rfl HCP.out.gl.dl zDl j hjt
         obtain rfl : N3 = some dd := hA3
         obtain ⟨Am, cm, hcs, hcm, hM⟩ := kDl_open hK
         simp only [List.cons.injEq, and_true] at hcs
         obtain ⟨rfl, rfl, rfl⟩ := hcs
         have HM := Lib.hid (Kd.C_below hM HXI.out)
         clear hcm hM hK
         have hd0 := (chk_good g _ HCP.out.md.chk).dl _ (getD_at hjt zDl)
         have hbk := byK_bd HCP.out.md k _ (getD_at hjt zDl)
         have hsj := HS2.out j hjt
         have hs4 := HS3.out j
         have hs5 := HS3.out (j + 1)
         generalize g.dl.getD j zDl = d at *
         obtain ⟨q, hq⟩ : ∃ q : Nat, d.region = (q : Int) := ⟨d.region.toNat, by omega⟩
         rw [hq] at p0
         rw [hq, Int.toNat_natCast] at hsj
         have hql : q < rs.length := by have := hd0.2.1; omega
         have hpq := byK_part hbk (rs.getD q []) ns
         have HMP := Lib.hid (show d.moves.length = g.pts from hd0.2.2)
         replace p0 := pw_cell_below HXI.out p0
         replace p1 := pw_cell_below HXI.out p1
         replace p2 := pw_cell_below HXI.out p2
         obtain ⟨ar, r0, hAr, hKr, t0⟩ := el1 (d := kRg) rfl HCP.out.rr [] q hql
         obtain ⟨Ai, ci, hcs, hcl, hMr⟩ := kSl_open hKr
         simp only [List.cons.injEq, and_true] at hcs
         subst hcs
         have HMR := Lib.hid hMr
         clear hKr hMr hcl
         replace t0 := pw_cell_below HXI.out t0
         subst hAr
         generalize rs.getD q [] = r at *
         obtain ⟨sa, hsa⟩ : ∃ q, (sclB r ns).a = q := ⟨_, rfl⟩
         obtain ⟨sb, hsb⟩ : ∃ q, (sclB r ns).b = q := ⟨_, rfl⟩
         have HSA2 := Lib.hid hsa
         have HSB2 := Lib.hid hsb
         rw [hsa, hsb] at hsj hpq
         have HSJ := Lib.hid hsj
         have HS4 := Lib.hid hs4
         have HS5 := Lib.hid hs5
         have HPQ := Lib.hid hpq
         have b2 : (0 : Int) ≤ (q : Int) := by omega
         have b3 : (q : Int) < (rs.length : Int) := by omega
         clear hsa hsb hsj hs4 hs5 hpq hd0 hbk hj
         go_upto_region 24 with fail
         obtain ⟨u1, gE, hw0_, hg0_, XgE_, YgE_, _⟩ := new_box wr #[.int .i64 (q : Int), .int .i64 d.adv, .slice Am d.moves.length cm] 59
         rw [hw0_, hg0_]
         have EgE := Lib.hid (show gE = wr.heap.size + 0 by omega)
         clear hw0_ hg0_
         have HXu1 := Lib.hid (YgE_.out)
         have BgE := Lib.hid (XgE_.out)
         clear XgE_ YgE_
         have hb := HXu1.out
         replace HBO_ := Lib.hid (bthen' HBO_.out hb)
         replace HXI := Lib.hid (bthen' HXI.out hb)
         replace t0 := pw_cell_below hb t0
         replace HM := Lib.hid (Kd.C_below HM.out hb)
         clear p0 p1 p2 hb HXu1
         have z0 := BgE.out.cell 0
         have z1 := BgE.out.cell 1
         have z2 := BgE.out.cell 2
         simp only [List.getElem?_toArray, List.getElem?_cons_zero, List.getElem?_cons_succ] at z0 z1 z2
         have e1 : IntKind.i64.wrap (2 * (d.moves.length : Int)) = 2 * (d.moves.length : Int) := IntWalk.i64_in _ (by have := HMP.out; have := HPT.out; omega)
         by_cases hk2 : k < 2 * d.moves.length
         case neg =>
          have e2 : decide ((k : Int) < 2 * (d.moves.length : Int)) = false := decide_eq_false (by omega)
          have hby := byK_c hk2
          rw [hby] at HSJ HPQ
          clear hby hk2
          go_wp2_with fail
          refine (scalar_any r Ai ci ns Ba ca u1 (Kd.C_below HMR.out HXI.out) (Kd.C_below HCP.out.nn HXI.out)).mono ?_
          rintro e u2 ⟨rfl, hb⟩
          replace HBO_ := Lib.hid (bthen' HBO_.out hb)
          clear hb z0 z1 z2 t0
          rw [HSA2.out, HSB2.out]
          go_wp2_with fail
          refine (part_any d.adv sa sb u2).mono ?_
          rintro e u3 ⟨rfl, hb⟩
          replace HBO_ := Lib.hid (bthen' HBO_.out hb)
          clear hb
          rw [HPQ.out]
          obtain ⟨pq, hpq⟩ : ∃ q, partQ d.adv sa sb = q := ⟨_, rfl⟩
          rw [hpq] at HSJ
          rw [hpq]
          clear hpq
          have e5 : IntKind.i64.wrap (SK j + pq) = SK (j + 1) := by rw [← HSJ.out]; exact IntWalk.i64_in _ (by have := HS5.out; omega)
          go_wp2_with fail
          exact ⟨⟨j + 1, by go_num, by have := HJL.out; omega, rfl, HBO_⟩, by have := HJL.out; simp [intOf]; omega⟩
         have e2 : decide ((k : Int) < 2 * (d.moves.length : Int)) = true := decide_eq_true (by omega)
         by_cases hpar : k % 2 = 0
         ·obtain ⟨m, hm⟩ : ∃ m, k = 2 * m + 0 := ⟨k / 2, by omega⟩
          have hml : m < d.moves.length := by omega
          obtain ⟨am, x0, x1, rfl, hK2, q0, q1⟩ := el2 (d := kI2) rfl HM.out zI2 m hml
          have hk3 := kI2_open hK2
          simp only [List.cons.injEq, and_true] at hk3
          obtain ⟨rfl, rfl⟩ := hk3
          have hby := byK_a hk2 hm
          rw [hby] at HSJ HPQ
          generalize d.moves.getD m zI2 = mm at *
          obtain ⟨ma, mb⟩ := mm
          dsimp only at q0 q1 HSJ HPQ
          have m1 : (k : Int).tdiv 2 = (m : Int) := by rw [Int.tdiv_eq_ediv_of_nonneg (by omega)]; omega
          have m2 : (k : Int).tmod 2 = 0 := by rw [Int.tmod_eq_emod_of_nonneg (by omega)]; omega
          have m3 : IntKind.i64.wrap (m : Int) = (m : Int) := IntWalk.i64_in _ (by omega)
          have m4 : (0 : Int) ≤ (m : Int) := by omega
          have m5 : (m : Int) < (d.moves.length : Int) := by omega
          clear hK2 hby hk2 hml hm
          go_wp2_with fail
          refine (scalar_any r Ai ci ns Ba ca u1 (Kd.C_below HMR.out HXI.out) (Kd.C_below HCP.out.nn HXI.out)).mono ?_
          rintro e u2 ⟨rfl, hb⟩
          replace HBO_ := Lib.hid (bthen' HBO_.out hb)
          clear hb z0 z1 z2 t0
          rw [HSA2.out, HSB2.out]
          go_wp2_with fail
          refine (part_any ma sa sb u2).mono ?_
          rintro e u3 ⟨rfl, hb⟩
          replace HBO_ := Lib.hid (bthen' HBO_.out hb)
          clear hb
          rw [HPQ.out]
          obtain ⟨pq, hpq⟩ : ∃ q, partQ ma sa sb = q := ⟨_, rfl⟩
          rw [hpq] at HSJ
          rw [hpq]
          clear hpq
          have e5 : IntKind.i64.wrap (SK j + pq) = SK (j + 1) := by rw [← HSJ.out]; exact IntWalk.i64_in _ (by have := HS5.out; omega)
          go_wp2_with fail
          exact ⟨⟨j + 1, by go_num, by have := HJL.out; omega, rfl, HBO_⟩, by have := HJL.out; simp [intOf]; omega⟩
         ·obtain ⟨m, hm⟩ : ∃ m, k = 2 * m + 1 := ⟨k / 2, by omega⟩
          have hml : m < d.moves.length := by omega
          obtain ⟨am, x0, x1, rfl, hK2, q0, q1⟩ := el2 (d := kI2) rfl HM.out zI2 m hml
          have hk3 := kI2_open hK2
          simp only [List.cons.injEq, and_true] at hk3
          obtain ⟨rfl, rfl⟩ := hk3
          have hby := byK_b hk2 hm
          rw [hby] at HSJ HPQ
          generalize d.moves.getD m zI2 = mm at *
          obtain ⟨ma, mb⟩ := mm
          dsimp only at q0 q1 HSJ HPQ
          have m1 : (k : Int).tdiv 2 = (m : Int) := by rw [Int.tdiv_eq_ediv_of_nonneg (by omega)]; omega
          have m2 : (k : Int).tmod 2 = 1 := by rw [Int.tmod_eq_emod_of_nonneg (by omega)]; omega
          have m3 : IntKind.i64.wrap (m : Int) = (m : Int) := IntWalk.i64_in _ (by omega)
          have m4 : (0 : Int) ≤ (m : Int) := by omega
          have m5 : (m : Int) < (d.moves.length : Int) := by omega
          clear hK2 hby hk2 hml hm
          go_wp2_with fail
          refine (scalar_any r Ai ci ns Ba ca u1 (Kd.C_below HMR.out HXI.out) (Kd.C_below HCP.out.nn HXI.out)).mono ?_
          rintro e u2 ⟨rfl, hb⟩
          replace HBO_ := Lib.hid (bthen' HBO_.out hb)
          clear hb z0 z1 z2 t0
          rw [HSA2.out, HSB2.out]
          go_wp2_with fail
          refine (part_any mb sa sb u2).mono ?_
          rintro e u3 ⟨rfl, hb⟩
          replace HBO_ := Lib.hid (bthen' HBO_.out hb)
          clear hb
          rw [HPQ.out]
          obtain ⟨pq, hpq⟩ : ∃ q, partQ mb sa sb = q := ⟨_, rfl⟩
          rw [hpq] at HSJ
          rw [hpq]
          clear hpq
          have e5 : IntKind.i64.wrap (SK j + pq) = SK (j + 1) := by rw [← HSJ.out]; exact IntWalk.i64_in _ (by have := HS5.out; omega)
          go_wp2_with fail
          exact ⟨⟨j + 1, by go_num, by have := HJL.out; omega, rfl, HBO_⟩, by have := HJL.out; simp [intOf]; omega⟩
        ·have d3 : decide (j < g.dl.length) = false := decide_eq_false hjt
         have d4 : decide ((j : Int) < (g.dl.length : Int)) = false := decide_eq_false (by omega)
         obtain rfl : j = g.dl.length := by omega
         have pa := pw_cell_below HBO_.out HPA.out
         have e6 : (SK g.dl.length != SK g.dl.length) = false := by simp
         clear hjt hj HPA
         go_wp2_with fail
         exact ⟨⟨k + 1, by go_num, by have := HKL.out; omega, Lib.hid (bthen' HXR.out HBO_.out), Lib.hid (Kd.C_below CA.out HBO_.out), Lib.hid (Kd.C_below CB.out HBO_.out), Lib.hid (BgG.out.below HBO_.out)⟩, by have := HKL.out; simp [intOf]; omega⟩
      ·have d1 : decide (k < xs.length) = false := decide_eq_false hlt
       have d2 : decide ((k : Int) < (xs.length : Int)) = false := decide_eq_false (by omega)
       clear hlt hk
       go_wp2_with fail
       go_ret
       exact ⟨rfl, bthen' HWB.out HXR.out⟩
end Go.Proofs.Ythpccdhmppbkfaa
/- OutlineAdds: its walk at the row's arguments. -/
set_option linter.unusedVariables false
set_option linter.unusedSimpArgs false
namespace Go.Proofs.Ythpccdhmppbkfaa
open Go.RowKit Go.Shelf Go.Proofs.YthpccdhmppbkfaaW.PrintWords Go.Proofs.YthpccdhmppbkfaaW.PrintLast Go.Proofs.YthpccdhmppbkfaaW.PrintMore
theorem outlineAdds_walk (l1 l2 l3 : List Int) (A1 A2 A3 : Option Addr) (c1 c2 c3 : Nat) (o0 o1 o2 x y : Int) (w : World) (hx : 0 ≤ x ∧ x ≤ 255) (hy : 0 ≤ y ∧ y ≤ 255) (h1 : Kd.C kI w A1 l1.length l1) (h2 : Kd.C kI w A2 l2.length l2) (h3 : Kd.C kI w A3 l3.length l3) (h4 : l2.length ≤ c2) :
  Calls Try.prog 5 #[.agg #[.slice A1 l1.length c1, .slice A2 l2.length c2, .slice A3 l3.length c3, .int .i64 o0, .int .i64 o1, .int .i64 o2, .int .u8 x, .int .u8 y]] w fun e w' => e = .returned (.bool true) ∧ Below w.heap.size w w' :=
 adds_any l1 l2 l3 A1 A2 A3 c1 c2 c3 o0 o1 o2 x y w hx hy h1 h2 h3 h4
end Go.Proofs.Ythpccdhmppbkfaa
