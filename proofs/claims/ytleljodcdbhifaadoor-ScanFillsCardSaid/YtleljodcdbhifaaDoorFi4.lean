/- Ba4: merged by wip/prune.py. -/
import Derived.BigRegion
import Derived.Deep.RegionHeld3
import Derived.Test.YtleljodcdbhifaaDoorWInvWords
import Derived.ProofKit
import Derived.OpenShut
import Derived.Lib.SmallJoins
import Derived.Test.YtleljodcdbhifaaDoorTie
import Derived.Deep.Slices
import Derived.Lay
import Derived.LaidLaws
import Derived.LaidMore
import Derived.LaidHandle
import Derived.MakeChecks
import Derived.Stop.Joined
import Derived.ChangeSame
import Derived.ChangeVars
import Derived.Test.YtleljodcdbhifaaDoorFi0
import Derived.Test.YtleljodcdbhifaaDoorFi1
import Derived.Test.YtleljodcdbhifaaDoorFi2
import Derived.Test.YtleljodcdbhifaaDoorFi3
/- Merged by wip/rebase.py: ScFill, ScIs, Hy4, ScSan, ScGiven, ScSum, ScMade, ScPix, Read, ScArgs. -/
/- The pixels of an outline. -/
set_option linter.unusedVariables false
set_option linter.unusedSimpArgs false
namespace Go.Proofs.YtleljodcdbhifaaDoor
open Go.RowKit Go.Proofs.YtleljodcdbhifaaDoorW.PrintWords Go.Proofs.YtleljodcdbhifaaDoorW.PrintLast Go.Proofs.YtleljodcdbhifaaDoorW.PrintMore Hy
attribute [local go_sem ↓] Go.wp_at_zero Go.wp_at_succ
/-- what a piece counts for a point -/
def cntP (s : S84) (x y : Int) : Int := cnt s.f0 s.f1 s.f2 s.f3 s.f4 s.f5 s.f6 (2 * x) (2 * y)
/-- the winding number -/
def wind (l : List S84) (x y : Int) : Int := (l.map fun s => cntP s x y).sum
def nearS (s : S84) : Prop := near13 s.f0 ∧ near13 s.f1 ∧ near13 s.f2 ∧ near13 s.f3 ∧ near13 s.f4 ∧ near13 s.f5
theorem cntQ_b (a b c e f g : Int) : -1 ≤ cntQ a b c e f g ∧ cntQ a b c e f g ≤ 1 := by
  unfold cntQ
  (repeat' split) <;> omega
theorem cnt_b (x0 y0 x1 y1 x2 y2 : Int) (cu : Bool) (x y : Int) : -1 ≤ cnt x0 y0 x1 y1 x2 y2 cu x y ∧ cnt x0 y0 x1 y1 x2 y2 cu x y ≤ 1 := by
  unfold cnt cntC cntL
  have h1 := sg_b (y2 - y0)
  have h2 := sg_b (2 * (y1 - y0))
  have h3 := cntQ_b (y0 - 2 * y1 + y2) (2 * (y1 - y0)) (y0 - y) (x0 - 2 * x1 + x2) (2 * (x1 - x0)) (x0 - x)
  (repeat' split) <;> omega
theorem wind_nil (x y : Int) : wind [] x y = 0 := rfl
theorem wind_cons (s : S84) (l : List S84) (x y : Int) : wind (s :: l) x y = cntP s x y + wind l x y := by simp [wind]
theorem wind_append (a b : List S84) (x y : Int) : wind (a ++ b) x y = wind a x y + wind b x y := by simp [wind]
theorem wind_b (l : List S84) (x y : Int) : -(l.length : Int) ≤ wind l x y ∧ wind l x y ≤ l.length := by
  induction l with
  | nil => simp [wind]
  | cons s l ih =>
    have h := cnt_b s.f0 s.f1 s.f2 s.f3 s.f4 s.f5 s.f6 (2 * x) (2 * y)
    rw [wind_cons, List.length_cons]
    unfold cntP
    omega
theorem pieceOf_near {b p n : S30} (hb : nearP b) (hp : nearP p) (hn : nearP n) : ∀ s ∈ pieceOf b p n, nearS s := by
  intro s hs
  unfold nearP near12 at hb hp hn
  unfold pieceOf at hs
  unfold nearS near13
  split at hs
  · split at hs
    · rw [List.mem_singleton] at hs
      subst hs
      dsimp only
      omega
    · cases hs
  · rw [List.mem_singleton] at hs
    subst hs
    dsimp only
    (repeat' split) <;> omega
theorem pcs_near (c : List S30) (h : ∀ p ∈ c, nearP p) (k : Nat) : ∀ s ∈ pcs c k, nearS s := by
  intro s hs
  unfold pcs at hs
  obtain ⟨j, _, hj⟩ := List.mem_flatMap.1 hs
  exact pieceOf_near (getD_near h _) (getD_near h _) (getD_near h _) s hj
theorem nearL_mem {l : List (List S30)} (h : nearL l = true) : ∀ c ∈ l, ∀ p ∈ c, nearP p := by
  intro c hc p hp
  unfold nearL at h
  simp only [Bool.not_eq_true', List.any_eq_false] at h
  have h1 := h c hc
  simp only [Bool.not_eq_true, List.any_eq_false] at h1
  exact farB_false (by simpa using h1 p hp)
theorem allP_near {l : List (List S30)} (h : nearL l = true) : ∀ s ∈ allP l, nearS s := by
  intro s hs
  unfold allP at hs
  obtain ⟨c, hc, hs⟩ := List.mem_flatMap.1 hs
  exact pcs_near c (nearL_mem h c hc) _ s hs
/-- winding, as the print tells it -/
theorem wind_l (l : List S84) (hn : ∀ s ∈ l, nearS s) (hl : l.length ≤ 1000000000000) (x y : Int) (hx : -8192 ≤ x ∧ x ≤ 8192) (hy : -8192 ≤ y ∧ y ≤ 8192) (d : Nat) : ∀ (k : Nat) (i : Nat), i + d = l.length → d < k →
    scan_winding.l0 k x y (wind (l.take i) x y) l (l.length : Int) (i : Int) = some (wind l x y) := by
  induction d with
  | zero =>
    intro k i hi hk
    obtain ⟨k, rfl⟩ : ∃ m, k = m + 1 := ⟨k - 1, by omega⟩
    simp only [scan_winding.l0]
    rw [if_neg (by omega), show i = l.length by omega, List.take_length]
  | succ d ih =>
    intro k i hi hk
    obtain ⟨k, rfl⟩ : ∃ m, k = m + 1 := ⟨k - 1, by omega⟩
    have hlt : i < l.length := by omega
    simp only [scan_winding.l0]
    rw [if_pos (by omega), if_pos (by omega), if_pos (by omega)]
    have hr : rd_T84 l (i : Int) = l[i] := by
      unfold rd_T84
      rw [Int.toNat_natCast, List.getD_eq_getElem?_getD, List.getElem?_eq_getElem hlt]; rfl
    rw [hr]
    obtain ⟨n0, n1, n2, n3, n4, n5⟩ := hn l[i] (List.getElem_mem hlt)
    have hw : ∀ n : Int, -9223372036854775808 ≤ n ∧ n ≤ 9223372036854775807 → wrap64 n = n := fun n h => w64 h
    rw [hw (2 * x) (by omega), hw (2 * y) (by omega)]
    have hc : scan_piece_counts.f l[i].f0 l[i].f1 l[i].f2 l[i].f3 l[i].f4 l[i].f5 l[i].f6 (2 * x) (2 * y) = some (cntP l[i] x y) := by
      unfold scan_piece_counts.f
      rw [if_pos ⟨n0, n1, n2, n3, n4, n5, by unfold near14; omega, by unfold near14; omega⟩]
      rfl
    rw [hc, Option.bind_some]
    have hb := wind_b (l.take i) x y
    have hcb : -1 ≤ cntP l[i] x y ∧ cntP l[i] x y ≤ 1 := cnt_b _ _ _ _ _ _ _ _ _
    rw [List.length_take, Nat.min_eq_left (by omega)] at hb
    have e : wind (l.take (i + 1)) x y = wind (l.take i) x y + cntP l[i] x y := by
      rw [List.take_succ_eq_append_getElem hlt, wind_append, wind_cons, wind_nil, Int.add_zero]
    rw [hw _ (by omega), hw ((i : Int) + 1) (by omega), ← e]
    have := ih k (i + 1) (by omega) (by omega)
    rw [show ((i + 1 : Nat) : Int) = (i : Int) + 1 by omega] at this
    exact this
theorem wind_f (l : List S84) (hn : ∀ s ∈ l, nearS s) (hl : l.length ≤ 1000000000000) (x y : Int) (hx : -8192 ≤ x ∧ x ≤ 8192) (hy : -8192 ≤ y ∧ y ≤ 8192) : scan_winding.f (l.length + 1) l x y = some (wind l x y) := by
  have := wind_l l hn hl x y hx hy l.length (l.length + 1) 0 (by omega) (by omega)
  simpa [scan_winding.f, wind] using this
/-- the least and greatest of some numbers, from a number on -/
def minF (a : Int) (l : List Int) : Int := l.foldl min a
def maxF (a : Int) (l : List Int) : Int := l.foldl max a
def ptsOf (l : List (List S30)) : List S30 := l.flatten
def X0 (p : List S30) : Int := minF 4096 (p.map (·.f0)) / 64
def X1 (p : List S30) : Int := maxF (-4096) (p.map (·.f0)) / 64
def Y0 (p : List S30) : Int := minF 4096 (p.map (·.f1)) / 64
def Y1 (p : List S30) : Int := maxF (-4096) (p.map (·.f1)) / 64
/-- the pixels of a row, from the left one on -/
def rowN (ps : List S84) (x0 y : Int) : Nat → Nat
  | 0 => 0
  | n + 1 => if wind ps (64 * (x0 + n) + 32) (64 * y + 32) ≠ 0 then rowN ps x0 y n ||| 2 ^ n else rowN ps x0 y n
def rowsN (ps : List S84) (x0 y0 : Int) (w : Nat) (h : Nat) : List Int := (List.range h).map fun (j : Nat) => ((rowN ps x0 (y0 + j) w : Nat) : Int)
def rawB (l : List (List S30)) : Bm :=
  let p := ptsOf l
  ⟨X0 p, Y0 p, X1 p - X0 p + 1, Y1 p - Y0 p + 1, rowsN (allP l) (X0 p) (Y0 p) (X1 p - X0 p + 1).toNat (Y1 p - Y0 p + 1).toNat⟩
def fillB (l : List (List S30)) : Bm × Int :=
  if nearL l = false then (Bm.zero, 3)
  else if ptsOf l = [] then (Bm.zero, 0)
  else if 63 < X1 (ptsOf l) - X0 (ptsOf l) ∨ 63 < Y1 (ptsOf l) - Y0 (ptsOf l) then (Bm.zero, 3)
  else (trimB (rawB l), 0)
theorem ptsOf_snoc (l : List (List S30)) (k : Nat) (hk : k < l.length) : ptsOf (l.take (k + 1)) = ptsOf (l.take k) ++ l.getD k [] := by
  unfold ptsOf
  rw [List.take_succ_eq_append_getElem hk, List.flatten_append, List.getD_eq_getElem?_getD, List.getElem?_eq_getElem hk]
  simp
theorem ptsOf_le (l : List (List S30)) (h : ∀ c ∈ l, c.length ≤ 1000000) : (ptsOf l).length ≤ l.length * 1000000 := by
  unfold ptsOf
  induction l with
  | nil => simp
  | cons c l ih =>
    have h1 := ih (fun c' hc => h c' (List.mem_cons_of_mem _ hc))
    have h3 := h c List.mem_cons_self
    rw [List.flatten_cons, List.length_append, List.length_cons]
    omega
theorem minF_snoc (l : List S30) (k : Nat) (hk : k < l.length) {p : S30} (hp : l.getD k z30 = p) :
    minF 4096 ((l.take (k + 1)).map (·.f0)) = min (minF 4096 ((l.take k).map (·.f0))) p.f0 ∧ maxF (-4096) ((l.take (k + 1)).map (·.f0)) = max (maxF (-4096) ((l.take k).map (·.f0))) p.f0 ∧ minF 4096 ((l.take (k + 1)).map (·.f1)) = min (minF 4096 ((l.take k).map (·.f1))) p.f1 ∧ maxF (-4096) ((l.take (k + 1)).map (·.f1)) = max (maxF (-4096) ((l.take k).map (·.f1))) p.f1 := by
  rw [List.getD_eq_getElem?_getD, List.getElem?_eq_getElem hk, Option.getD_some] at hp
  subst hp
  rw [List.take_succ_eq_append_getElem hk, List.map_append, List.map_append]
  simp [minF, maxF, List.foldl_append]
theorem allNear {l : List (List S30)} (h : nearL l = true) : ∀ p ∈ ptsOf l, nearP p := by
  intro p hp
  unfold ptsOf at hp
  obtain ⟨c, hc, hpc⟩ := List.mem_flatten.1 hp
  exact nearL_mem h c hc p hpc
theorem minF_b : ∀ (l : List Int) (a : Int), -4096 ≤ a ∧ a ≤ 4096 → (∀ x ∈ l, -4096 ≤ x ∧ x ≤ 4096) → -4096 ≤ minF a l ∧ minF a l ≤ 4096
  | [], a, ha, _ => ha
  | x :: l, a, ha, h => by
    have hx := h x List.mem_cons_self
    exact minF_b l (min a x) (by omega) fun y hy => h y (List.mem_cons_of_mem _ hy)
theorem maxF_b : ∀ (l : List Int) (a : Int), -4096 ≤ a ∧ a ≤ 4096 → (∀ x ∈ l, -4096 ≤ x ∧ x ≤ 4096) → -4096 ≤ maxF a l ∧ maxF a l ≤ 4096
  | [], a, ha, _ => ha
  | x :: l, a, ha, h => by
    have hx := h x List.mem_cons_self
    exact maxF_b l (max a x) (by omega) fun y hy => h y (List.mem_cons_of_mem _ hy)
theorem mm_b {l : List (List S30)} {pt : List S30} (h : ∀ p ∈ ptsOf l, nearP p) (hp : ptsOf l = pt) :
    (-4096 ≤ minF 4096 (pt.map (·.f0)) ∧ minF 4096 (pt.map (·.f0)) ≤ 4096) ∧ (-4096 ≤ maxF (-4096) (pt.map (·.f0)) ∧ maxF (-4096) (pt.map (·.f0)) ≤ 4096) ∧ (-4096 ≤ minF 4096 (pt.map (·.f1)) ∧ minF 4096 (pt.map (·.f1)) ≤ 4096) ∧ (-4096 ≤ maxF (-4096) (pt.map (·.f1)) ∧ maxF (-4096) (pt.map (·.f1)) ≤ 4096) := by
  rw [hp] at h
  have h0 : ∀ x ∈ pt.map (·.f0), -4096 ≤ x ∧ x ≤ 4096 := by
    intro x hx
    obtain ⟨p, hp, rfl⟩ := List.mem_map.1 hx
    have := h p hp
    unfold nearP near12 at this
    omega
  have h1 : ∀ x ∈ pt.map (·.f1), -4096 ≤ x ∧ x ≤ 4096 := by
    intro x hx
    obtain ⟨p, hp, rfl⟩ := List.mem_map.1 hx
    have := h p hp
    unfold nearP near12 at this
    omega
  exact ⟨minF_b _ _ (by omega) h0, maxF_b _ _ (by omega) h0, minF_b _ _ (by omega) h1, maxF_b _ _ (by omega) h1⟩
theorem rowN_lt (ps : List S84) (x0 y : Int) : ∀ n, rowN ps x0 y n < 2 ^ n
  | 0 => by simp [rowN]
  | n + 1 => by
    have h := rowN_lt ps x0 y n
    have e : 2 ^ n < 2 ^ (n + 1) := Nat.pow_lt_pow_succ (by decide)
    unfold rowN
    split
    · exact Nat.or_lt_two_pow (by omega) e
    · omega
theorem rowsN_at (ps : List S84) (x0 y0 : Int) (w h k : Nat) (hk : k < h) : (rowsN ps x0 y0 w h).take (k + 1) = (rowsN ps x0 y0 w h).take k ++ [((rowN ps x0 (y0 + k) w : Nat) : Int)] := by
  have hl : (rowsN ps x0 y0 w h).length = h := by simp [rowsN]
  rw [List.take_succ_eq_append_getElem (by omega)]
  congr 2
  simp [rowsN]
theorem rowsN_u64 (ps : List S84) (x0 y0 : Int) (w h : Nat) (hw : w ≤ 64) : ∀ r ∈ rowsN ps x0 y0 w h, u64 r := by
  intro r hr
  unfold rowsN at hr
  obtain ⟨j, _, rfl⟩ := List.mem_map.1 hr
  have h1 := rowN_lt ps x0 (y0 + j) w
  have h2 : 2 ^ w ≤ 2 ^ 64 := Nat.pow_le_pow_right (by decide) hw
  unfold u64
  omega
theorem or_bit (r m : Nat) (h : r < 2 ^ m) (h2 : 2 ^ m ≤ 2 ^ 63) : bits BinOp.or IntKind.u64 (r : Int) (IntKind.u64.wrap (2 ^ m)) = ((r ||| 2 ^ m : Nat) : Int) := by
  have e : IntKind.u64.wrap ((2 : Int) ^ m) = ((2 ^ m : Nat) : Int) := by
    rw [show (2 : Int) ^ m = ((2 ^ m : Nat) : Int) by simp]
    exact IntWalk.u64_in _ (by omega)
  rw [e]
  exact bits_or_u64_nat r (2 ^ m) (by omega) (by omega)
set_option maxRecDepth 100000 in
set_option maxHeartbeats 40000000 in
theorem fill_any (A : Option Addr) (cap : Nat) (l : List (List S30)) (w : World) (hT : Tab w) (hC : Kd.C (Kd.slice 30 k30) w A l.length l) (hl : l.length ≤ 1000000) (hc : ∀ c ∈ l, c.length ≤ 1000000) :
    Calls Tryd.prog 16 #[.slice A l.length cap] w fun e w' => ∃ v, e = .returned (.tuple #[.agg #[.int .i64 (fillB l).1.L, .int .i64 (fillB l).1.T, .int .i64 (fillB l).1.W, .int .i64 (fillB l).1.H, v], .int .i64 (fillB l).2]) ∧ Kd.R (Kd.int .u64) 59 w' w.heap.size (fun _ => True) v (fillB l).1.rows ∧ Below w.heap.size w w' := by
  have hu36 := Tryd.underlying36
  have hu30 := Tryd.underlying30
  have HT := Lib.hid hT
  have HC := Lib.hid hC
  have HL := Lib.hid hl
  have HLC := Lib.hid hc
  have hm : l.length ≤ 9223372036854775807 := hC.2.1
  clear hT hC hl hc
  go_enter Tryd.func16, Tryd.ntmps16
  go_upto_region 1 with fail
  obtain ⟨w1, gr, hw, hg, B1, HB1, HN1⟩ := new_box w #[.int .i64 0, .int .i64 0, .int .i64 0, .int .i64 0, .slice none 0 0] 36
  rw [hw, hg]
  have HG := Lib.hid (Nat.le_of_eq hg)
  clear hw hg HN1
  go_wp2_with fail
  refine (all_any A cap l w1 (Kd.C_below HC.out HB1.out) HL.out HLC.out).mono ?_
  rintro e w2 ⟨vp, rfl, hRp, hb⟩
  obtain ⟨Ap, cp, rfl⟩ := Kd.R_slice hRp
  have HP0 := Lib.hid (Kd.R_lower hRp HB1.out.size)
  have HB2 := Lib.hid (bthen' HB1.out hb)
  have BR2 := Lib.hid (B1.out.below hb)
  clear hRp hb
  have r0 := BR2.out.cell 0
  have r1 := BR2.out.cell 1
  have r2 := BR2.out.cell 2
  have r3 := BR2.out.cell 3
  have r4 := BR2.out.cell 4
  simp only [List.getElem?_toArray, List.getElem?_cons_zero, List.getElem?_cons_succ] at r0 r1 r2 r3 r4
  have z0 := BR2.out.frozen 0
  have z1 := BR2.out.frozen 1
  have z2 := BR2.out.frozen 2
  have z3 := BR2.out.frozen 3
  have z4 := BR2.out.frozen 4
  have hnr : nearL l = true ∨ nearL l = false := by cases nearL l <;> simp
  rcases hnr with hnr | hnr
  case inr =>
    have HE : Hid (fillB l = (Bm.zero, 3)) := Lib.hid (by unfold fillB; rw [if_pos hnr])
    rw [hnr]
    clear hnr
    go_wp2_with fail
    refine bodyPost_ret (res_ct (g := gr) (cs := #[.int .i64 0, .int .i64 0, .int .i64 0, .int .i64 0, .slice none 0 0]) rfl _ _ _ _ rfl (((((BR2.out.put 0 _ rfl).put 1 _ rfl).put 2 _ rfl).put 3 _ rfl).put 4 _ rfl) rfl hu36 (by kernel_rfl)) rfl ?_
    rw [HE.out]
    exact ⟨_, rfl, Kd.R_nil _ _ _ _ _, bset (bset (bset (bset (bset HB2.out HG.out 0 _) HG.out 1 _) HG.out 2 _) HG.out 3 _) HG.out 4 _⟩
  rw [hnr]
  have HNR := Lib.hid hnr
  clear hnr r0 r1 r2 r3 r4 z0 z1 z2 z3 z4
  have HP : Hid (Kd.R k84 84 w2 w.heap.size (fun _ => True) (.slice Ap (allP l).length cp) (allP l)) := Lib.hid (by have h := HP0.out; unfold allR at h; rw [HNR.out] at h; exact h)
  rw [show (allR l).length = (allP l).length by unfold allR; rw [HNR.out]; rfl]
  clear HP0
  have hple := allP_le l HLC.out
  have hl6 := HL.out
  obtain ⟨ps, hps⟩ : ∃ ps, allP l = ps := ⟨_, rfl⟩
  rw [hps] at HP hple ⊢
  have HPS := Lib.hid hps
  have hpn : ps.length ≤ 1000000000000 := by omega
  clear hps hple
  go_wp2_with fail
  go_loopw [6, 29] (fun u i wr => ∃ (k : Nat), k ≤ l.length ∧ i = .int .i64 k ∧ Hid (Kd.R k30 30 wr w2.heap.size (fun _ => True) u (ptsOf (l.take k))) ∧ Hid (Below w2.heap.size w2 wr)) (fun _ i _ => l.length - (intOf i).toNat)
  case atStart => exact ⟨0, Nat.zero_le _, rfl, Lib.hid (Kd.R_nil _ _ _ _ _), Lib.hid (Below.refl _ _)⟩
  case round =>
  obtain ⟨k, hk, rfl, HV, HBr⟩ := hrel
  by_cases hlt : k < l.length
  · obtain ⟨ad, cs, hA, hcl, hKr, hcell⟩ := Kd.C_get HC.out [] (k : Int) (by omega) (by omega)
    rw [Int.toNat_natCast] at hKr hcell
    obtain ⟨A1, c1, rfl, hc1, hC1⟩ := hKr
    have h0 := hcell 0 _ rfl
    have e00 : w.cell? (ad.add k) = some (.slice A1 (l.getD k []).length c1) := by simpa [Kd.slice] using h0
    have HBw := Lib.hid (bthen' HB2.out HBr.out)
    have e0 := pw_cell_below HBw.out e00
    subst hA
    have hpk := ptsOf_snoc l k hlt
    have hmem : l.getD k [] ∈ l := by
      rw [List.getD_eq_getElem?_getD, List.getElem?_eq_getElem hlt]
      exact List.getElem_mem hlt
    have hcl6 := HLC.out _ hmem
    have hptl := ptsOf_le (l.take k) (fun c hc => HLC.out c (List.mem_of_mem_take hc))
    rw [List.length_take, Nat.min_eq_left hk] at hptl
    obtain ⟨ct, hct⟩ : ∃ ct, l.getD k [] = ct := ⟨_, rfl⟩
    rw [hct] at hC1 e0 hpk hcl6
    obtain ⟨qs, hqs⟩ : ∃ qs, ptsOf (l.take k) = qs := ⟨_, rfl⟩
    rw [hqs] at HV hpk hptl
    have HC1 := Lib.hid (Kd.C_below hC1 HBw.out)
    have HPK := Lib.hid hpk
    have hcap : (k : Int) < l.length := by omega
    have hbytes : Hid ((qs.length + ct.length) * 24 ≤ 140737488355328) := Lib.hid (by omega)
    clear hct hqs hC1 hpk hcell hcl h0 e00 hmem hptl hcl6
    go_wp2_with (at_builtin; go_loud (refine Kd.R_append_rows k30 (Rr := k30.K wr) (w0 := w2) w2.heap.size rfl (.tmp 33) (.tmp 34) 28 30 _ 24 rfl Tryd.underlying28 info30 rfl (by decide) (by omega) _ qs ct A1 ct.length c1 (fun _ => True) (fun _ => False) rfl rfl HV.out HC1.out (fun _ _ h => h) (fun _ h => h.elim) (fun _ _ => trivial) HBr.out HBr.out.size hbytes.out ?_); intro v1 w3 hR3 hB3 hG3 hat3)
    exact ⟨⟨k + 1, by omega, by go_num, Lib.hid (by rw [HPK.out]; exact hR3), Lib.hid hB3⟩, by simp [intOf]; omega⟩
  obtain rfl : k = l.length := by omega
  rw [List.take_length] at HV
  obtain ⟨Aq, cq, rfl⟩ := Kd.R_slice HV.out
  have hptl := ptsOf_le l HLC.out
  obtain ⟨pt, hpt⟩ : ∃ pt, ptsOf l = pt := ⟨_, rfl⟩
  rw [hpt] at HV hptl ⊢
  have HPT := Lib.hid hpt
  have BR3 := Lib.hid (BR2.out.below HBr.out)
  have HB3 := Lib.hid (bthen' HB2.out HBr.out)
  have HP3 := Lib.hid (Kd.R_below HP.out HBr.out)
  have hmp : pt.length ≤ 1000000000000 := by omega
  have hnz : ps.length + 0 = ps.length := rfl
  clear hpt hptl hlt hnz
  by_cases hz : pt.length = 0
  · have hz1 : ((pt.length : Int) == 0) = true := by simp [hz]
    have HE : Hid (fillB l = (Bm.zero, 0)) := Lib.hid (by
      unfold fillB
      rw [if_neg (by rw [HNR.out]; simp), if_pos (by rw [HPT.out]; exact List.length_eq_zero_iff.1 hz)])
    have r0 := BR3.out.cell 0
    have r1 := BR3.out.cell 1
    have r2 := BR3.out.cell 2
    have r3 := BR3.out.cell 3
    have r4 := BR3.out.cell 4
    simp only [List.getElem?_toArray, List.getElem?_cons_zero, List.getElem?_cons_succ] at r0 r1 r2 r3 r4
    have z0 := BR3.out.frozen 0
    have z1 := BR3.out.frozen 1
    have z2 := BR3.out.frozen 2
    have z3 := BR3.out.frozen 3
    have z4 := BR3.out.frozen 4
    clear hz
    go_wp2_with fail
    refine bodyPost_ret (res_ct (g := gr) (cs := #[.int .i64 0, .int .i64 0, .int .i64 0, .int .i64 0, .slice none 0 0]) rfl _ _ _ _ rfl (((((BR3.out.put 0 _ rfl).put 1 _ rfl).put 2 _ rfl).put 3 _ rfl).put 4 _ rfl) rfl hu36 (by kernel_rfl)) rfl ?_
    rw [HE.out]
    exact ⟨_, rfl, Kd.R_nil _ _ _ _ _, bset (bset (bset (bset (bset HB3.out HG.out 0 _) HG.out 1 _) HG.out 2 _) HG.out 3 _) HG.out 4 _⟩
  have hz1 : ((pt.length : Int) == 0) = false := by rw [beq_eq_false_iff_ne]; omega
  go_wp2_with fail
  generalize hwr : wr = w4 at *
  have HW4 := Lib.hid hwr
  clear hwr
  go_loopw [9, 10, 11, 12, 43] (fun a b c d i wr => ∃ k : Nat, k ≤ pt.length ∧ i = .int .i64 k ∧ a = .int .i64 (minF 4096 ((pt.take k).map (·.f0))) ∧ b = .int .i64 (maxF (-4096) ((pt.take k).map (·.f0))) ∧ c = .int .i64 (minF 4096 ((pt.take k).map (·.f1))) ∧ d = .int .i64 (maxF (-4096) ((pt.take k).map (·.f1))) ∧ Hid (Below w4.heap.size w4 wr)) (fun _ _ _ _ i _ => pt.length - (intOf i).toNat)
  case atStart => exact ⟨0, Nat.zero_le _, rfl, rfl, rfl, rfl, rfl, Lib.hid (Below.refl _ _)⟩
  case round =>
  obtain ⟨k, hk, rfl, rfl, rfl, rfl, rfl, HBk⟩ := hrel
  by_cases hlt : k < pt.length
  · obtain ⟨ad, hA, g0, g1, g2⟩ := pt_cells (Kd.C_below (Kd.R_reads' HV.out).2.2 HBk.out) k hlt
    subst hA
    obtain ⟨p, hp⟩ : ∃ p, pt.getD k z30 = p := ⟨_, rfl⟩
    rw [hp] at g0 g1 g2
    have HS := Lib.hid (minF_snoc pt k hlt hp)
    clear hp
    obtain ⟨a0, ha0⟩ : ∃ a0, minF 4096 ((pt.take k).map (·.f0)) = a0 := ⟨_, rfl⟩
    obtain ⟨b0, hb0⟩ : ∃ a0, maxF (-4096) ((pt.take k).map (·.f0)) = a0 := ⟨_, rfl⟩
    obtain ⟨c0, hc0⟩ : ∃ a0, minF 4096 ((pt.take k).map (·.f1)) = a0 := ⟨_, rfl⟩
    obtain ⟨d0, hd0⟩ : ∃ a0, maxF (-4096) ((pt.take k).map (·.f1)) = a0 := ⟨_, rfl⟩
    rw [ha0, hb0, hc0, hd0] at HS
    rw [ha0, hb0, hc0, hd0]
    have hlt' : (k : Int) < pt.length := by omega
    clear ha0 hb0 hc0 hd0 hlt
    go_upto_region 16 with fail
    obtain ⟨w5, gp, hw, hg, B5, HB5, HN5⟩ := new_box wr #[.int .i64 p.f0, .int .i64 p.f1, .bool p.f2] 30
    rw [hw, hg]
    clear hw hg HN5
    have q0 := B5.out.cell 0
    have q1 := B5.out.cell 1
    have q2 := B5.out.cell 2
    simp only [List.getElem?_toArray, List.getElem?_cons_zero, List.getElem?_cons_succ] at q0 q1 q2
    go_region
    have HB6 := Lib.hid (bthen' HBk.out (below_drew HB5.out))
    go_wp2_with fail
    exact ⟨⟨k + 1, by omega, by go_num, by rw [HS.out.1], by rw [HS.out.2.1], by rw [HS.out.2.2.1], by rw [HS.out.2.2.2], HB6⟩, by simp [intOf]; omega⟩
  obtain rfl : k = pt.length := by omega
  rw [List.take_length]
  have HB9 := Lib.hid (bthen' HB3.out HBk.out)
  have BR9 := Lib.hid (BR3.out.below HBk.out)
  have HP9 := Lib.hid (Kd.R_below HP3.out HBk.out)
  have HMM := mm_b (allNear HNR.out) HPT.out
  obtain ⟨a0, ha0⟩ : ∃ a0, minF 4096 (pt.map (·.f0)) = a0 := ⟨_, rfl⟩
  obtain ⟨b0, hb0⟩ : ∃ a0, maxF (-4096) (pt.map (·.f0)) = a0 := ⟨_, rfl⟩
  obtain ⟨c0, hc0⟩ : ∃ a0, minF 4096 (pt.map (·.f1)) = a0 := ⟨_, rfl⟩
  obtain ⟨d0, hd0⟩ : ∃ a0, maxF (-4096) (pt.map (·.f1)) = a0 := ⟨_, rfl⟩
  rw [ha0, hb0, hc0, hd0] at HMM
  rw [ha0, hb0, hc0, hd0]
  have HX0 : Hid (X0 pt = a0 / 64) := Lib.hid (by unfold X0; rw [ha0])
  have HX1 : Hid (X1 pt = b0 / 64) := Lib.hid (by unfold X1; rw [hb0])
  have HY0 : Hid (Y0 pt = c0 / 64) := Lib.hid (by unfold Y0; rw [hc0])
  have HY1 : Hid (Y1 pt = d0 / 64) := Lib.hid (by unfold Y1; rw [hd0])
  obtain ⟨hm1, hm2, hm3, hm4⟩ := HMM
  clear ha0 hb0 hc0 hd0 hlt
  go_upto_region 19 with fail
  have hb1 : -64 ≤ a0 / 64 ∧ a0 / 64 ≤ 64 := by omega
  have hb2 : -64 ≤ b0 / 64 ∧ b0 / 64 ≤ 64 := by omega
  have hb3 : -64 ≤ c0 / 64 ∧ c0 / 64 ≤ 64 := by omega
  have hb4 : -64 ≤ d0 / 64 ∧ d0 / 64 ≤ 64 := by omega
  generalize a0 / 64 = x0 at *
  generalize b0 / 64 = x1 at *
  generalize c0 / 64 = y0 at *
  generalize d0 / 64 = y1 at *
  clear hm1 hm2 hm3 hm4
  have hnz : (pt.length : Int) ≠ 0 := by omega
  by_cases hbig : 63 < x1 - x0 ∨ 63 < y1 - y0
  · have HE : Hid (fillB l = (Bm.zero, 3)) := Lib.hid (by
      unfold fillB
      rw [if_neg (by rw [HNR.out]; simp), if_neg (by rw [HPT.out]; intro h; rw [h] at hz; exact hz rfl), if_pos (by rw [HPT.out, HX0.out, HX1.out, HY0.out, HY1.out]; exact hbig)])
    have r0 := BR9.out.cell 0
    have r1 := BR9.out.cell 1
    have r2 := BR9.out.cell 2
    have r3 := BR9.out.cell 3
    have r4 := BR9.out.cell 4
    simp only [List.getElem?_toArray, List.getElem?_cons_zero, List.getElem?_cons_succ] at r0 r1 r2 r3 r4
    have z0 := BR9.out.frozen 0
    have z1 := BR9.out.frozen 1
    have z2 := BR9.out.frozen 2
    have z3 := BR9.out.frozen 3
    have z4 := BR9.out.frozen 4
    clear hz hz1 hnz
    by_cases hx : 63 < x1 - x0
    · clear hbig
      go_wp2_with fail
      refine bodyPost_ret (res_ct (g := gr) (cs := #[.int .i64 0, .int .i64 0, .int .i64 0, .int .i64 0, .slice none 0 0]) rfl _ _ _ _ rfl (((((BR9.out.put 0 _ rfl).put 1 _ rfl).put 2 _ rfl).put 3 _ rfl).put 4 _ rfl) rfl hu36 (by kernel_rfl)) rfl ?_
      rw [HE.out]
      exact ⟨_, rfl, Kd.R_nil _ _ _ _ _, bset (bset (bset (bset (bset HB9.out HG.out 0 _) HG.out 1 _) HG.out 2 _) HG.out 3 _) HG.out 4 _⟩
    · have hy : 63 < y1 - y0 := by omega
      clear hbig
      go_wp2_with fail
      refine bodyPost_ret (res_ct (g := gr) (cs := #[.int .i64 0, .int .i64 0, .int .i64 0, .int .i64 0, .slice none 0 0]) rfl _ _ _ _ rfl (((((BR9.out.put 0 _ rfl).put 1 _ rfl).put 2 _ rfl).put 3 _ rfl).put 4 _ rfl) rfl hu36 (by kernel_rfl)) rfl ?_
      rw [HE.out]
      exact ⟨_, rfl, Kd.R_nil _ _ _ _ _, bset (bset (bset (bset (bset HB9.out HG.out 0 _) HG.out 1 _) HG.out 2 _) HG.out 3 _) HG.out 4 _⟩
  have hx : x1 - x0 ≤ 63 := by omega
  have hy : y1 - y0 ≤ 63 := by omega
  have HE : Hid (fillB l = (trimB (rawB l), 0)) := Lib.hid (by
      unfold fillB
      rw [if_neg (by rw [HNR.out]; simp), if_neg (by rw [HPT.out]; intro h; rw [h] at hz; exact hz rfl), if_neg (by rw [HPT.out, HX0.out, HX1.out, HY0.out, HY1.out]; exact hbig)])
  clear hbig hz hz1
  generalize hwr : wr = w9 at *
  have HW9 := Lib.hid hwr
  clear hwr
  go_upto_region 22 with fail
  obtain ⟨w10, gb, hw, hg, B0, HB0, HN0⟩ := new_box w9 #[.int .i64 x0, .int .i64 y0, .int .i64 (x1 - x0 + 1), .int .i64 (y1 - y0 + 1), .slice none 0 0] 36
  rw [hw, hg]
  have HG0 := Lib.hid (Nat.le_of_eq hg)
  have BRa := Lib.hid (BR9.out.below HB0.out)
  have HPa := Lib.hid (Kd.R_below HP9.out HB0.out)
  have NGB := Lib.hid (show gr ≠ gb by have := BR9.out.lt; have := HG0.out; omega)
  clear hw hg HN0
  obtain ⟨wN, hwN⟩ : ∃ wN, (x1 - x0 + 1).toNat = wN := ⟨_, rfl⟩
  obtain ⟨hN, hhN⟩ : ∃ hN, (y1 - y0 + 1).toNat = hN := ⟨_, rfl⟩
  have hw64 : wN ≤ 64 := by omega
  have hh64 : hN ≤ 64 := by omega
  obtain ⟨rows, hrows⟩ : ∃ rows, rowsN ps x0 y0 wN hN = rows := ⟨_, rfl⟩
  have HRAW : Hid (rawB l = ⟨x0, y0, x1 - x0 + 1, y1 - y0 + 1, rows⟩) := Lib.hid (by
    unfold rawB
    dsimp only
    rw [HPT.out, HX0.out, HX1.out, HY0.out, HY1.out, hwN, hhN, HPS.out, hrows])
  have HROWS := Lib.hid hrows
  clear hrows
  go_wp2_with fail
  go_loopw [16] (fun y wr => ∃ (k : Nat) (v : Value), k ≤ hN ∧ y = .int .i64 (y0 + k) ∧ Hid (Blk wr gb #[.int .i64 x0, .int .i64 y0, .int .i64 (x1 - x0 + 1), .int .i64 (y1 - y0 + 1), v] 36) ∧ Hid (Kd.R (Kd.int .u64) 59 wr w9.heap.size (fun _ => True) v (rows.take k)) ∧ Hid (Below w9.heap.size w9 wr)) (fun y _ => (y1 + 1 - intOf y).toNat)
  case atStart => exact ⟨0, _, Nat.zero_le _, by simp, B0, Lib.hid (Kd.R_nil _ _ _ _ _), HB0⟩
  case round =>
  obtain ⟨k, v, hk, rfl, BK, HV, HBK⟩ := hrel
  by_cases hlt : y0 + k ≤ y1
  · have hk1 : k < hN := by omega
    have hky : (k : Int) ≤ y1 - y0 := by omega
    go_upto_region 26 with fail
    generalize hwr : wr = wo at *
    have HWO := Lib.hid hwr
    clear hwr
    have HPb := Lib.hid (Kd.R_below HP9.out HBK.out)
    have HPc := Lib.hid (Kd.R_reads' HPb.out).2.2
    have HPd := Lib.hid (Kd.R_reads' HPb.out).2.1
    have hpsn : ∀ q ∈ ps, nearS q := by rw [← HPS.out]; exact allP_near HNR.out
    have HPSN := Lib.hid hpsn
    clear hpsn
    go_wp2_with fail
    go_loopw [17, 18] (fun r x wr => ∃ m : Nat, m ≤ wN ∧ x = .int .i64 (x0 + m) ∧ r = .int .u64 ((rowN ps x0 (y0 + k) m : Nat) : Int) ∧ Hid (Below wo.heap.size wo wr)) (fun _ x _ => (x1 + 1 - intOf x).toNat)
    case atStart => exact ⟨0, Nat.zero_le _, by simp, rfl, Lib.hid (Below.refl _ _)⟩
    case round =>
    obtain ⟨m, hm, rfl, rfl, HBm⟩ := hrel
    by_cases hltm : x0 + m ≤ x1
    · have hm1 : m < wN := by omega
      have hmx : (m : Int) ≤ x1 - x0 := by omega
      have hwf := wind_f ps HPSN.out hpn (64 * (x0 + m) + 32) (64 * (y0 + k) + 32) (by omega) (by omega)
      have hrow : rowN ps x0 (y0 + k) (m + 1) = if wind ps (64 * (x0 + m) + 32) (64 * (y0 + k) + 32) ≠ 0 then rowN ps x0 (y0 + k) m ||| 2 ^ m else rowN ps x0 (y0 + k) m := rfl
      have hrl := rowN_lt ps x0 (y0 + k) m
      have hrl2 : 2 ^ m ≤ 2 ^ 63 := Nat.pow_le_pow_right (by omega) (by omega)
      generalize wind ps (64 * (x0 + m) + 32) (64 * (y0 + k) + 32) = v0 at hwf hrow
      generalize rowN ps x0 (y0 + k) m = r0 at *
      have HROW := Lib.hid hrow
      have HWF := Lib.hid hwf
      have HRL := Lib.hid hrl
      have HRL2 := Lib.hid hrl2
      clear hrow hwf hrl hrl2
      go_wp2_with fail
      refine (scan_winding.calls (ps.length + 1) Ap cp ps (64 * (x0 + m) + 32) (64 * (y0 + k) + 32) v0 wr (Kd.C_below HPc.out HBm.out) HPd.out HWF.out).mono ?_
      rintro e w12 ⟨rfl, hb⟩
      have HBn := Lib.hid (bthen' HBm.out hb)
      clear hb
      by_cases hv : v0 = 0
      · subst hv
        have HR2 : Hid (rowN ps x0 (y0 + k) (m + 1) = r0) := Lib.hid (by rw [HROW.out]; simp)
        go_wp2_with fail
        exact ⟨⟨m + 1, by omega, by go_num, by rw [HR2.out], HBn⟩, by simp [intOf]; omega⟩
      · have HR2 : Hid (rowN ps x0 (y0 + k) (m + 1) = r0 ||| 2 ^ m) := Lib.hid (by rw [HROW.out, if_pos hv])
        have hsh : (x0 + (m : Int)) - x0 = m := by omega
        go_upto_region 30 with fail
        go_wp2_with fail
        exact ⟨⟨m + 1, by omega, by go_num, by rw [HR2.out, or_bit r0 m HRL.out HRL2.out], HBn⟩, by simp [intOf]; omega⟩
    obtain rfl : m = wN := by omega
    have BKm := Lib.hid (BK.out.below HBm.out)
    have HVm := Lib.hid (Kd.R_below HV.out HBm.out)
    have HBx := Lib.hid (bthen' HBK.out HBm.out)
    obtain ⟨Av, cv, rfl⟩ := Kd.R_slice HV.out
    have htk : rows.take (k + 1) = rows.take k ++ [((rowN ps x0 (y0 + k) m : Nat) : Int)] := by
      rw [← HROWS.out]
      exact rowsN_at ps x0 y0 m hN k hk1
    obtain ⟨rv, hrv⟩ : ∃ rv, ((rowN ps x0 (y0 + k) m : Nat) : Int) = rv := ⟨_, rfl⟩
    rw [hrv] at htk ⊢
    obtain ⟨rs, hrs⟩ : ∃ rs, rows.take k = rs := ⟨_, rfl⟩
    rw [hrs] at HVm htk BKm
    have hrl : rs.length ≤ 64 := by rw [← hrs, List.length_take]; omega
    have HTK := Lib.hid htk
    have g4 := BKm.out.cell 4
    have q4 := BKm.out.frozen 4
    simp only [List.getElem?_toArray, List.getElem?_cons_zero, List.getElem?_cons_succ] at g4
    have hne4 := Kd.R_ne HVm.out BKm.out (by decide : 59 ≠ 36)
    have HNE := Lib.hid hne4
    clear hne4 hrs htk hrv HPb HPc HPd hltm
    go_upto_region 31 with fail
    go_wp2_with (at_builtin; go_loud (refine Kd.R_append (Kd.int .u64) (W := wr) (w0 := w9) w9.heap.size rfl (.tmp 122) (.tmp 124) 34 59 (.int .u64 0) 8 rfl Tryd.underlying34 info59 rfl (by decide) (by omega) (.slice Av rs.length cv) rs rv [.int .u64 rv] (fun _ => True) (fun _ => False) rfl rfl rfl (fun _ h => h.elim) (fun _ _ => trivial) HVm.out HBx.out HBx.out.size (by omega) ?_); intro v1 w13 hR1 hB1 hG1 hat1; obtain ⟨A1, c1, rfl⟩ := Kd.R_slice hR1; have bk1 : Blk w13 gb #[.int .i64 x0, .int .i64 y0, .int .i64 (x1 - x0 + 1), .int .i64 (y1 - y0 + 1), .slice Av rs.length cv] 36 := (hG1.block gb BKm.out.lt HNE.out).trans BKm.out; have j4 := bk1.cell 4; have y4 := bk1.frozen 4; simp only [List.getElem?_toArray, List.getElem?_cons_zero, List.getElem?_cons_succ] at j4; have BK1 := Lib.hid bk1; have HR1 := Lib.hid hR1; have HB1' := Lib.hid hB1; clear bk1 hR1 hB1 hG1 hat1)
    have h4 : Kd.R (Kd.int .u64) 59 w13 w9.heap.size (fun _ => True) (.slice A1 (rs.length + 1) c1) (rs ++ [rv]) := by
      have h := HR1.out
      rw [List.length_append, List.length_singleton] at h
      exact h
    have H4 := Kd.R_set h4 BK1.out (by intro q hq; simp [Kd.int, Kd.scalar] at hq; omega) 4 (.slice A1 (rs.length + 1) c1)
    have HK4 := BK1.out.put 4 (.slice A1 (rs.length + 1) c1) rfl
    have HB4' := bset HB1'.out HG0.out 4 (.slice A1 (rs.length + 1) c1)
    exact ⟨⟨k + 1, .slice A1 (rs.length + 1) c1, by omega, by go_num, Lib.hid HK4, Lib.hid (by rw [HTK.out]; exact H4), Lib.hid HB4'⟩, by simp [intOf]; omega⟩
  obtain rfl : k = hN := by omega
  have hlr : rows.length = k := by rw [← HROWS.out]; simp [rowsN]
  rw [List.take_of_length_le (by omega)] at HV
  obtain ⟨Av, cv, rfl⟩ := Kd.R_slice HV.out
  have HT2 := HT.out.below (bthen' HB9.out HBK.out)
  have BRk := Lib.hid (BR9.out.below HBK.out)
  have HBz := Lib.hid (bthen' HB9.out HBK.out)
  have HRU := Lib.hid (show ∀ r ∈ rows, u64 r by rw [← HROWS.out]; exact rowsN_u64 _ _ _ _ _ hw64)
  have HVz := Lib.hid (Kd.R_reads' HV.out).2.2
  have HVc := Lib.hid (Kd.R_reads' HV.out).2.1
  have HTz := Lib.hid HT2
  have g0 := BK.out.cell 0
  have g1 := BK.out.cell 1
  have g2 := BK.out.cell 2
  have g3 := BK.out.cell 3
  have g4 := BK.out.cell 4
  simp only [List.getElem?_toArray, List.getElem?_cons_zero, List.getElem?_cons_succ] at g0 g1 g2 g3 g4
  clear hlr hlt HT2
  go_wp2_with fail
  refine (trim_any x0 y0 (x1 - x0 + 1) (y1 - y0 + 1) Av cv rows wr HTz.out HVz.out HVc.out HRU.out).mono ?_
  rintro e w14 ⟨vt, rfl, hRt, hb⟩
  have HRT := Lib.hid (Kd.R_lower hRt HBz.out.size)
  have BRz := Lib.hid (BRk.out.below hb)
  have HBe := Lib.hid (bthen' HBz.out hb)
  clear hRt hb g0 g1 g2 g3 g4
  rw [← HRAW.out] at HRT ⊢
  obtain ⟨⟨tL, tT, tW, tH, tr⟩, htb⟩ : ∃ b, trimB (rawB l) = b := ⟨_, rfl⟩
  rw [htb] at HRT ⊢
  dsimp only at HRT ⊢
  obtain ⟨At, ct, rfl⟩ := Kd.R_slice HRT.out
  have r0 := BRz.out.cell 0
  have r1 := BRz.out.cell 1
  have r2 := BRz.out.cell 2
  have r3 := BRz.out.cell 3
  have r4 := BRz.out.cell 4
  simp only [List.getElem?_toArray, List.getElem?_cons_zero, List.getElem?_cons_succ] at r0 r1 r2 r3 r4
  have z0 := BRz.out.frozen 0
  have z1 := BRz.out.frozen 1
  have z2 := BRz.out.frozen 2
  have z3 := BRz.out.frozen 3
  have z4 := BRz.out.frozen 4
  have HTB := Lib.hid htb
  clear htb
  go_wp2_with fail
  refine bodyPost_ret (res_ct (g := gr) (cs := #[.int .i64 tL, .int .i64 tT, .int .i64 tW, .int .i64 tH, .slice At tr.length ct]) rfl _ _ _ _ rfl (((((BRz.out.put 0 _ rfl).put 1 _ rfl).put 2 _ rfl).put 3 _ rfl).put 4 _ rfl) rfl hu36 (by kernel_rfl)) rfl ?_
  rw [HE.out]
  dsimp only
  rw [HTB.out]
  refine ⟨_, rfl, ?_, bset (bset (bset (bset (bset HBe.out HG.out 0 _) HG.out 1 _) HG.out 2 _) HG.out 3 _) HG.out 4 _⟩
  have hq : ∀ q, q ∈ 59 :: (Kd.int .u64).E → q ≠ 36 := by intro q hq; simp [Kd.int, Kd.scalar] at hq; omega
  exact Kd.R_set (Kd.R_set (Kd.R_set (Kd.R_set (Kd.R_set HRT.out BRz.out hq 0 _) (BRz.out.set 0 _) hq 1 _) ((BRz.out.set 0 _).set 1 _) hq 2 _) (((BRz.out.set 0 _).set 1 _).set 2 _) hq 3 _) ((((BRz.out.set 0 _).set 1 _).set 2 _).set 3 _) hq 4 _
end Go.Proofs.YtleljodcdbhifaaDoor
/- Equality of bitmaps; the bitmap of an outline is this one. -/
set_option linter.unusedVariables false
set_option linter.unusedSimpArgs false
namespace Go.Proofs.YtleljodcdbhifaaDoor
open Go.RowKit Go.Proofs.YtleljodcdbhifaaDoorW.PrintWords Go.Proofs.YtleljodcdbhifaaDoorW.PrintLast Go.Proofs.YtleljodcdbhifaaDoorW.PrintMore Hy
attribute [local go_sem ↓] Go.wp_at_zero Go.wp_at_succ
theorem ref_same (a0 a1 a2 a3 : Int) (l : List Int) (b0 b1 b2 b3 : Int) (m : List Int) (hm : l.length ≤ 9223372036854775807) :
    abugidaref11_Same.f (l.length + 2) a0 a1 a2 a3 l b0 b1 b2 b3 m = some (sameB ⟨a0, a1, a2, a3, l⟩ ⟨b0, b1, b2, b3, m⟩) := rfl
def isB (l : List (List S30)) (L T W : Int) (rs : List Int) : Bool := (fillB l).2 == 0 && sameB (fillB l).1 ⟨L, T, W, rs.length, rs⟩
set_option maxRecDepth 100000 in
set_option maxHeartbeats 40000000 in
theorem is_any (A : Option Addr) (cap : Nat) (l : List (List S30)) (L T W : Int) (A4 : Option Addr) (c4 : Nat) (rs : List Int) (w : World) (hT : Tab w) (hC : Kd.C (Kd.slice 30 k30) w A l.length l) (hl : l.length ≤ 1000000) (hc : ∀ c ∈ l, c.length ≤ 1000000) (hr : Kd.C (Kd.int .u64) w A4 rs.length rs) (hrc : rs.length ≤ c4) :
    Calls Tryd.prog 28 #[.slice A l.length cap, .int .i64 L, .int .i64 T, .int .i64 W, .slice A4 rs.length c4] w fun e w' => e = .returned (.bool (isB l L T W rs)) ∧ Below w.heap.size w w' := by
  have hu36 := Tryd.underlying36
  have HR := Lib.hid hr
  have HRC := Lib.hid hrc
  clear hr hrc
  go_enter Tryd.func28, Tryd.ntmps28
  go_wp2_with fail
  refine (fill_any A cap l w hT hC hl hc).mono ?_
  rintro e w1 ⟨v, rfl, hR, hb⟩
  have HIS : Hid (isB l L T W rs = ((fillB l).2 == 0 && sameB (fillB l).1 ⟨L, T, W, rs.length, rs⟩)) := Lib.hid rfl
  obtain ⟨⟨⟨bL, bT, bW, bH, br⟩, be⟩, hfb⟩ : ∃ b, fillB l = b := ⟨_, rfl⟩
  rw [hfb] at hR HIS
  rw [hfb]
  dsimp only at hR HIS ⊢
  obtain ⟨Av, cv, rfl⟩ := Kd.R_slice hR
  have HV := Lib.hid hR
  have HB := Lib.hid hb
  clear hT hC hl hc hR hb hfb
  go_upto_region 2 with fail
  obtain ⟨w2, gb, hw, hg, B0, HB0, HN0⟩ := new_box w1 #[.int .i64 bL, .int .i64 bT, .int .i64 bW, .int .i64 bH, .slice Av br.length cv] 36
  rw [hw, hg]
  have HB2 := Lib.hid (bthen' HB.out HB0.out)
  have HV2 := Lib.hid (Kd.R_below HV.out HB0.out)
  clear hw hg HN0
  have g0 := B0.out.cell 0
  have g1 := B0.out.cell 1
  have g2 := B0.out.cell 2
  have g3 := B0.out.cell 3
  have g4 := B0.out.cell 4
  simp only [List.getElem?_toArray, List.getElem?_cons_zero, List.getElem?_cons_succ] at g0 g1 g2 g3 g4
  by_cases he : be = 0
  · subst he
    have HVz := (Kd.R_reads' HV2.out).2.2
    have hm : br.length ≤ 9223372036854775807 := HVz.2.1
    have HVy := Lib.hid HVz
    have HM := Lib.hid hm
    clear HVz hm
    go_wp2_with fail
    refine (abugidaref11_Same.calls (br.length + 2) bL bT bW bH Av cv br L T W (rs.length : Int) A4 c4 rs _ w2 HVy.out (Kd.R_reads' HV2.out).2.1 (Kd.C_below HR.out HB2.out) HRC.out (ref_same _ _ _ _ _ _ _ _ _ _ HM.out)).mono ?_
    rintro e w3 ⟨rfl, hb⟩
    have HB3 := Lib.hid (bthen' HB2.out hb)
    clear hb
    generalize sameB ⟨bL, bT, bW, bH, br⟩ ⟨L, T, W, rs.length, rs⟩ = sb at *
    go_wp2_with fail
    go_ret
    exact ⟨by rw [HIS.out]; rfl, HB3.out⟩
  · have hbe : (be == 0) = false := by simpa using he
    clear he
    go_wp2_with fail
    go_ret
    exact ⟨by rw [HIS.out, hbe]; rfl, HB2.out⟩
end Go.Proofs.YtleljodcdbhifaaDoor
namespace Go.Proofs.YtleljodcdbhifaaDoor.Hy
open Go.RowKit Go.Proofs.YtleljodcdbhifaaDoorW.PrintWords Go.Proofs.YtleljodcdbhifaaDoorW.PrintLast Go.Proofs.YtleljodcdbhifaaDoorW.PrintMore
attribute [local go_sem] max2_int min2_int max_two min_two max_three min_three max_four min_four   -- for this text's walks alone
set_option linter.unusedVariables false
set_option linter.unusedSimpArgs false
/-! ### scan_Inside: function 14 -/
def scan_Inside.f (k : Nat) (l0 : List (List (S30))) (a1 : Int) (a2 : Int) : Option (Bool) := (scan_all.f l0).bind fun bt106 => (if bt106.2 = true then ((scan_near.f a1).bind fun t110 => (if t110 = true then ((scan_near.f a2).bind fun t111 => (if t111 = true then ((scan_winding.f k bt106.1 a1 a2).bind fun t112 => (some (t112 != 0))) else (some false))) else (some false))) else (some false))
theorem scan_Inside.mono : ∀ a0 a1 a2 k, LeO (scan_Inside.f k a0 a1 a2) (scan_Inside.f (k + 1) a0 a1 a2) := by
  intro a0 a1 a2 k
  unfold scan_Inside.f
  repeat' first
      | (with_reducible exact scan_winding.mono _ _ _ _)
      | (with_reducible exact LeO.refl _)
      | (with_reducible exact LeO.none _)
      | (with_reducible refine LeO.ite ?_ ?_)
      | (with_reducible refine LeO.bind ?_ (fun _ => ?_))
      | exact scan_winding.mono _ _ _ _
      | exact LeO.none _
      | refine LeO.ite ?_ ?_
      | refine LeO.bind ?_ (fun _ => ?_)
set_option maxHeartbeats 8000000 in
set_option maxRecDepth 100000 in
theorem scan_Inside.calls (k : Nat) (A0 : Option Addr) (c0 : Nat) (l0 : List (List (S30))) (a1 : Int) (a2 : Int) (r : Bool) (w : World) (hr0 : Kd.C (Kd.slice 30 k30) w A0 l0.length l0) (hc0 : l0.length ≤ c0) (h : scan_Inside.f k l0 a1 a2 = some r) :
    Calls Tryd.prog 14 #[.slice A0 l0.length c0, .int .i64 a1, .int .i64 a2] w fun e w' => e = .returned (.bool r) ∧ Below w.heap.size w w' := by
  have HR0 := Aside0.mk hr0
  have HC0 := Aside0.mk hc0
  clear hr0 hc0
  have HB := Aside0.mk (Below.refl w.heap.size w)
  have H : ((scan_all.f l0).bind fun bt106 => (if bt106.2 = true then ((scan_near.f a1).bind fun t110 => (if t110 = true then ((scan_near.f a2).bind fun t111 => (if t111 = true then ((scan_winding.f k bt106.1 a1 a2).bind fun t112 => (some (t112 != 0))) else (some false))) else (some false))) else (some false))) = some r := h
  clear h
  replace H := Option.bind_eq_some_iff.mp H
  obtain ⟨⟨t106, t107⟩, A40, H⟩ := H
  replace H : (if t107 = true then ((scan_near.f a1).bind fun t110 => (if t110 = true then ((scan_near.f a2).bind fun t111 => (if t111 = true then ((scan_winding.f k t106 a1 a2).bind fun t112 => (some (t112 != 0))) else (some false))) else (some false))) else (some false)) = some r := H
  have A4 := Aside0.mk A40
  clear A40
  by_cases c5 : t107 = true
  · subst c5
    have H1 : ((scan_near.f a1).bind fun t110 => (if t110 = true then ((scan_near.f a2).bind fun t111 => (if t111 = true then ((scan_winding.f k t106 a1 a2).bind fun t112 => (some (t112 != 0))) else (some false))) else (some false))) = some r := by rw [if_pos rfl] at H; exact H
    clear H
    have H := H1
    clear H1
    replace H := Option.bind_eq_some_iff.mp H
    obtain ⟨t110, A60, H⟩ := H
    replace H : (if t110 = true then ((scan_near.f a2).bind fun t111 => (if t111 = true then ((scan_winding.f k t106 a1 a2).bind fun t112 => (some (t112 != 0))) else (some false))) else (some false)) = some r := H
    have A6 := Aside0.mk A60
    clear A60
    by_cases c7 : t110 = true
    · subst c7
      have H1 : ((scan_near.f a2).bind fun t111 => (if t111 = true then ((scan_winding.f k t106 a1 a2).bind fun t112 => (some (t112 != 0))) else (some false))) = some r := by rw [if_pos rfl] at H; exact H
      clear H
      have H := H1
      clear H1
      replace H := Option.bind_eq_some_iff.mp H
      obtain ⟨t111, A80, H⟩ := H
      replace H : (if t111 = true then ((scan_winding.f k t106 a1 a2).bind fun t112 => (some (t112 != 0))) else (some false)) = some r := H
      have A8 := Aside0.mk A80
      clear A80
      by_cases c9 : t111 = true
      · subst c9
        have H1 : ((scan_winding.f k t106 a1 a2).bind fun t112 => (some (t112 != 0))) = some r := by rw [if_pos rfl] at H; exact H
        clear H
        have H := H1
        clear H1
        replace H := Option.bind_eq_some_iff.mp H
        obtain ⟨t112, A100, H⟩ := H
        replace H : (some (t112 != 0)) = some r := H
        have A10 := Aside0.mk A100
        clear A100
        obtain rfl := Option.some.inj H
        go_enter Tryd.func14, Tryd.ntmps14
        go_wp2_with (first | ((with_reducible refine gate_callee (f := 30) rfl ?_); refine goesL_ (some 11) rfl rfl Tryd.func30 (by kernel_rfl) rfl #[.slice A0 l0.length c0] rfl (by (try simp only [List.map_toArray, List.map_cons, List.map_nil]); first | done | rfl | (simp only [List.length_drop, List.length_take]; rfl)) ?_; (with_reducible refine (scan_all.calls _ _ l0 t106 true _ ?side1 ?side2 A4.out).mono ?_); (case side1 => repeat (first | exact HR0.out | (with_reducible refine Kd.C_alloc ?_ _) | (with_reducible refine Kd.C_drewN ?_ _) | (with_reducible refine Kd.C_drew ?_))); (case side2 => exact HC0.out); rintro e w11 ⟨v108, rfl, ho0, hb⟩; refine ⟨_, rfl, ?_⟩; have n0_ := Aside0.mk (Kd.R_lower ho0 (below_size (by repeat (first | (with_reducible first | exact HB.out | apply below_alloc | apply pw_below_drewN | apply below_drew1) | exact HB.out)))); have n1_ := Aside0.mk (below_step (by repeat (first | (with_reducible first | exact HB.out | apply below_alloc | apply pw_below_drewN | apply below_drew1) | exact HB.out)) hb); clear HB; have HO109 := n0_; have HB := n1_; clear n0_ n1_; (try clear hb); (try clear hb2); (try clear hk); (try clear hi); (try clear ho0)) | (go_at_call 31; (with_reducible refine (scan_near.calls a1 true _ A6.out).mono ?_); rintro e w' ⟨rfl, ⟨nd, rfl⟩⟩) | (go_at_call 31; (with_reducible refine (scan_near.calls a2 true _ A8.out).mono ?_); rintro e w' ⟨rfl, ⟨nd, rfl⟩⟩; obtain ⟨Ao12, co12, eo12⟩ := Kd.R_slice HO109.out; subst eo12) | (go_at_call 32; (with_reducible refine (scan_winding.calls k _ _ t106 a1 a2 t112 _ ?side1 ?side2 A10.out).mono ?_); (case side1 => repeat (first | exact (Kd.R_reads' HO109.out).2.2 | (with_reducible refine Kd.C_alloc ?_ _) | (with_reducible refine Kd.C_drewN ?_ _) | (with_reducible refine Kd.C_drew ?_))); (case side2 => exact (Kd.R_reads' HO109.out).2.1); rintro e w13 ⟨rfl, hb⟩; have n0_ := Aside0.mk (Kd.R_below (by (with_reducible repeat (first | apply Kd.R_alloc | apply Kd.R_drewN | apply Kd.R_drew)); exact HO109.out) hb); have n1_ := Aside0.mk (below_step (by repeat (first | (with_reducible first | exact HB.out | apply below_alloc | apply pw_below_drewN | apply below_drew1) | exact HB.out)) hb); clear HO109; clear HB; have HO109 := n0_; have HB := n1_; clear n0_ n1_; (try clear hb); (try clear hb2); (try clear hk); (try clear hi)))
        go_ret
        exact ⟨by first | rfl | (simp [errW_none, errW_some] <;> rfl) | (simp [*, errW_none, errW_some] <;> rfl), by repeat (first | (with_reducible first | exact HB.out | apply below_alloc | apply pw_below_drewN | apply below_drew1) | exact HB.out)⟩
      · replace c9 := Bool.eq_false_iff.mpr c9
        subst c9
        have H1 : (some false) = some r := by rw [if_neg (show ¬ (false = true) by decide)] at H; exact H
        clear H
        have H := H1
        clear H1
        obtain rfl := Option.some.inj H
        go_enter Tryd.func14, Tryd.ntmps14
        go_wp2_with (first | ((with_reducible refine gate_callee (f := 30) rfl ?_); refine goesL_ (some 11) rfl rfl Tryd.func30 (by kernel_rfl) rfl #[.slice A0 l0.length c0] rfl (by (try simp only [List.map_toArray, List.map_cons, List.map_nil]); first | done | rfl | (simp only [List.length_drop, List.length_take]; rfl)) ?_; (with_reducible refine (scan_all.calls _ _ l0 t106 true _ ?side1 ?side2 A4.out).mono ?_); (case side1 => repeat (first | exact HR0.out | (with_reducible refine Kd.C_alloc ?_ _) | (with_reducible refine Kd.C_drewN ?_ _) | (with_reducible refine Kd.C_drew ?_))); (case side2 => exact HC0.out); rintro e w14 ⟨v108, rfl, ho0, hb⟩; refine ⟨_, rfl, ?_⟩; have n0_ := Aside0.mk (Kd.R_lower ho0 (below_size (by repeat (first | (with_reducible first | exact HB.out | apply below_alloc | apply pw_below_drewN | apply below_drew1) | exact HB.out)))); have n1_ := Aside0.mk (below_step (by repeat (first | (with_reducible first | exact HB.out | apply below_alloc | apply pw_below_drewN | apply below_drew1) | exact HB.out)) hb); clear HB; have HO109 := n0_; have HB := n1_; clear n0_ n1_; (try clear hb); (try clear hb2); (try clear hk); (try clear hi); (try clear ho0)) | (go_at_call 31; (with_reducible refine (scan_near.calls a1 true _ A6.out).mono ?_); rintro e w' ⟨rfl, ⟨nd, rfl⟩⟩) | (go_at_call 31; (with_reducible refine (scan_near.calls a2 false _ A8.out).mono ?_); rintro e w' ⟨rfl, ⟨nd, rfl⟩⟩))
        go_ret
        exact ⟨by first | rfl | (simp [errW_none, errW_some] <;> rfl) | (simp [*, errW_none, errW_some] <;> rfl), by repeat (first | (with_reducible first | exact HB.out | apply below_alloc | apply pw_below_drewN | apply below_drew1) | exact HB.out)⟩
    · replace c7 := Bool.eq_false_iff.mpr c7
      subst c7
      have H1 : (some false) = some r := by rw [if_neg (show ¬ (false = true) by decide)] at H; exact H
      clear H
      have H := H1
      clear H1
      obtain rfl := Option.some.inj H
      go_enter Tryd.func14, Tryd.ntmps14
      go_wp2_with (first | ((with_reducible refine gate_callee (f := 30) rfl ?_); refine goesL_ (some 11) rfl rfl Tryd.func30 (by kernel_rfl) rfl #[.slice A0 l0.length c0] rfl (by (try simp only [List.map_toArray, List.map_cons, List.map_nil]); first | done | rfl | (simp only [List.length_drop, List.length_take]; rfl)) ?_; (with_reducible refine (scan_all.calls _ _ l0 t106 true _ ?side1 ?side2 A4.out).mono ?_); (case side1 => repeat (first | exact HR0.out | (with_reducible refine Kd.C_alloc ?_ _) | (with_reducible refine Kd.C_drewN ?_ _) | (with_reducible refine Kd.C_drew ?_))); (case side2 => exact HC0.out); rintro e w15 ⟨v108, rfl, ho0, hb⟩; refine ⟨_, rfl, ?_⟩; have n0_ := Aside0.mk (Kd.R_lower ho0 (below_size (by repeat (first | (with_reducible first | exact HB.out | apply below_alloc | apply pw_below_drewN | apply below_drew1) | exact HB.out)))); have n1_ := Aside0.mk (below_step (by repeat (first | (with_reducible first | exact HB.out | apply below_alloc | apply pw_below_drewN | apply below_drew1) | exact HB.out)) hb); clear HB; have HO109 := n0_; have HB := n1_; clear n0_ n1_; (try clear hb); (try clear hb2); (try clear hk); (try clear hi); (try clear ho0)) | (go_at_call 31; (with_reducible refine (scan_near.calls a1 false _ A6.out).mono ?_); rintro e w' ⟨rfl, ⟨nd, rfl⟩⟩))
      go_ret
      exact ⟨by first | rfl | (simp [errW_none, errW_some] <;> rfl) | (simp [*, errW_none, errW_some] <;> rfl), by repeat (first | (with_reducible first | exact HB.out | apply below_alloc | apply pw_below_drewN | apply below_drew1) | exact HB.out)⟩
  · replace c5 := Bool.eq_false_iff.mpr c5
    subst c5
    have H1 : (some false) = some r := by rw [if_neg (show ¬ (false = true) by decide)] at H; exact H
    clear H
    have H := H1
    clear H1
    obtain rfl := Option.some.inj H
    go_enter Tryd.func14, Tryd.ntmps14
    go_wp2_with (first | ((with_reducible refine gate_callee (f := 30) rfl ?_); refine goesL_ (some 11) rfl rfl Tryd.func30 (by kernel_rfl) rfl #[.slice A0 l0.length c0] rfl (by (try simp only [List.map_toArray, List.map_cons, List.map_nil]); first | done | rfl | (simp only [List.length_drop, List.length_take]; rfl)) ?_; (with_reducible refine (scan_all.calls _ _ l0 t106 false _ ?side1 ?side2 A4.out).mono ?_); (case side1 => repeat (first | exact HR0.out | (with_reducible refine Kd.C_alloc ?_ _) | (with_reducible refine Kd.C_drewN ?_ _) | (with_reducible refine Kd.C_drew ?_))); (case side2 => exact HC0.out); rintro e w16 ⟨v108, rfl, ho0, hb⟩; refine ⟨_, rfl, ?_⟩; have n0_ := Aside0.mk (Kd.R_lower ho0 (below_size (by repeat (first | (with_reducible first | exact HB.out | apply below_alloc | apply pw_below_drewN | apply below_drew1) | exact HB.out)))); have n1_ := Aside0.mk (below_step (by repeat (first | (with_reducible first | exact HB.out | apply below_alloc | apply pw_below_drewN | apply below_drew1) | exact HB.out)) hb); clear HB; have HO109 := n0_; have HB := n1_; clear n0_ n1_; (try clear hb); (try clear hb2); (try clear hk); (try clear hi); (try clear ho0)))
    go_ret
    exact ⟨by first | rfl | (simp [errW_none, errW_some] <;> rfl) | (simp [*, errW_none, errW_some] <;> rfl), by repeat (first | (with_reducible first | exact HB.out | apply below_alloc | apply pw_below_drewN | apply below_drew1) | exact HB.out)⟩
end Go.Proofs.YtleljodcdbhifaaDoor.Hy
/- The law's check of the examples. -/
set_option linter.unusedVariables false
set_option linter.unusedSimpArgs false
namespace Go.Proofs.YtleljodcdbhifaaDoor
open Go.RowKit Go.Proofs.YtleljodcdbhifaaDoorW.PrintWords Go.Proofs.YtleljodcdbhifaaDoorW.PrintLast Go.Proofs.YtleljodcdbhifaaDoorW.PrintMore Hy
attribute [local go_sem ↓] Go.wp_at_zero Go.wp_at_succ
/-- a row that is written out -/
theorem C_lit {α : Type} (d : Kd α) (hs : d.sz = 1) {w : World} {g : Nat} {t : TypeId} (xs : List α) (vs : List Value) (B : Blk w g vs.toArray t) (hm : xs.length ≤ 1000) (h : ∀ (j : Nat) (p : α), xs[j]? = some p → ∃ u, vs[j]? = some u ∧ d.K w p [u]) : d.C w (some ⟨g, 0, none⟩) xs.length xs := by
  refine ⟨rfl, by omega, fun _ => ⟨_, rfl, fun j p hj => ?_⟩⟩
  obtain ⟨u, hu, hk⟩ := h j p hj
  refine ⟨[u], by rw [hs]; rfl, hk, fun i u' hu' => ?_⟩
  have hi : i = 0 := by
    rcases Nat.eq_zero_or_pos i with h0 | h0
    · exact h0
    · rw [List.getElem?_eq_none (by simp; omega)] at hu'; cases hu'
  subst hi
  rw [hs, Nat.mul_one, Nat.add_zero]
  have e : u' = u := by simpa using hu'.symm
  subst e
  have hb := B.cell j
  rw [List.getElem?_toArray, hu] at hb
  have ea : (⟨g, 0, none⟩ : Addr).add j = ⟨g, j, none⟩ := by unfold Addr.add; split <;> simp_all
  rw [ea]
  simpa using hb
theorem C_ints {k : IntKind} {w : World} {g : Nat} {t : TypeId} (xs : List Int) (B : Blk w g (xs.map (Value.int k)).toArray t) (hm : xs.length ≤ 1000) : Kd.C (Kd.int k) w (some ⟨g, 0, none⟩) xs.length xs :=
  C_lit (Kd.int k) rfl xs _ B hm fun j p hj => ⟨.int k p, by rw [List.getElem?_map, hj]; rfl, rfl⟩
theorem C_rows1 {w : World} {g : Nat} {t : TypeId} {A : Option Addr} {c : Nat} {l : List S30} (B : Blk w g #[.slice A l.length c] t) (hc : l.length ≤ c) (hl : Kd.C k30 w A l.length l) : Kd.C (Kd.slice 30 k30) w (some ⟨g, 0, none⟩) 1 [l] :=
  C_lit (Kd.slice 30 k30) rfl [l] [.slice A l.length c] B (by simp) fun j p hj => by
    cases j with
    | zero =>
      obtain rfl : l = p := by simpa using hj
      exact ⟨_, rfl, A, c, rfl, hc, hl⟩
    | succ j => simp at hj
theorem C_rows2 {w : World} {g : Nat} {t : TypeId} {A A' : Option Addr} {c c' : Nat} {l l' : List S30} (B : Blk w g #[.slice A l.length c, .slice A' l'.length c'] t) (hc : l.length ≤ c) (hl : Kd.C k30 w A l.length l) (hc' : l'.length ≤ c') (hl' : Kd.C k30 w A' l'.length l') : Kd.C (Kd.slice 30 k30) w (some ⟨g, 0, none⟩) 2 [l, l'] :=
  C_lit (Kd.slice 30 k30) rfl [l, l'] [.slice A l.length c, .slice A' l'.length c'] B (by simp) fun j p hj => by
    match j, hj with
    | 0, hj =>
      obtain rfl : l = p := by simpa using hj
      exact ⟨_, rfl, A, c, rfl, hc, hl⟩
    | 1, hj =>
      obtain rfl : l' = p := by simpa using hj
      exact ⟨_, rfl, A', c', rfl, hc', hl'⟩
    | j + 2, hj => simp at hj
/-- a point of a row is off -/
theorem k30_off {W : World} {base g n cap : Nat} {ok : Nat → Prop} {xs : List S30} (h : Kd.R k30 30 W base ok (.slice (some ⟨g, 0, none⟩) n cap) xs) (i : Nat) (hi : i < n) :
    Kd.R k30 30 (W.setCell ⟨g, i * 3 + 2, none⟩ (.bool false)) base ok (.slice (some ⟨g, 0, none⟩) n cap) (xs.set i ⟨(xs.getD i z30).f0, (xs.getD i z30).f1, false⟩) ∧ W.cell? ⟨g, i * 3 + 2, none⟩ = some (.bool (xs.getD i z30).f2) ∧ W.frozen? ⟨g, i * 3 + 2, none⟩ = false := by
  obtain ⟨c, hcl, hM, hcell, hfr⟩ := Kd.R_elem h z30 (i : Int) (by omega) (by omega)
  rw [Int.toNat_natCast] at hM hcell hfr
  have hc := k30_openM hM
  subst hc
  have hs : k30.sz = 3 := rfl
  refine ⟨?_, hcell 2 _ rfl, hfr 2⟩
  have hseg := (Kd.R_seg (okp := fun _ => False) h (i : Int) (by omega) (by omega) (c := [.int .i64 (xs.getD i z30).f0, .int .i64 (xs.getD i z30).f1, .bool (xs.getD i z30).f2]) (seg := [.bool false]) (j := 2) rfl (by rw [Int.toNat_natCast]; exact hcell) (by decide) (x' := (⟨(xs.getD i z30).f0, (xs.getD i z30).f1, false⟩ : S30)) ⟨[.int .i64 (xs.getD i z30).f0], [.int .i64 (xs.getD i z30).f1, .bool false], rfl, rfl, ⟨[.int .i64 (xs.getD i z30).f1], [.bool false], rfl, rfl, rfl⟩⟩ (fun _ h => h.elim)).1
  rw [Int.toNat_natCast] at hseg
  exact hseg
def sqB : List S30 := [⟨0, 0, true⟩, ⟨128, 0, true⟩, ⟨128, 128, true⟩, ⟨0, 128, true⟩]
def cuA : List S30 := [⟨0, 0, true⟩, ⟨64, 0, true⟩, ⟨64, 64, true⟩, ⟨0, 64, true⟩]
def cuB : List S30 := [⟨0, 0, true⟩, ⟨64, 0, false⟩, ⟨64, 64, true⟩, ⟨0, 64, true⟩]
def roB : List S30 := [⟨0, 0, false⟩, ⟨128, 0, false⟩, ⟨128, 128, false⟩, ⟨0, 128, false⟩]
def triB : List S30 := [⟨0, 0, true⟩, ⟨128, 0, true⟩, ⟨0, 128, true⟩]
def midB : List S30 := [⟨32, 32, true⟩, ⟨96, 32, true⟩, ⟨96, 96, true⟩, ⟨32, 96, true⟩]
def cuR : List S30 := [⟨0, 0, true⟩, ⟨0, 64, true⟩, ⟨64, 64, true⟩, ⟨64, 0, true⟩]
theorem on_sq : abugidalaw11_on.f 6 [0, 0, 128, 0, 128, 128, 0, 128] = some sqB := by kernel_rfl
theorem on_cu : abugidalaw11_on.f 6 [0, 0, 64, 0, 64, 64, 0, 64] = some cuA := by kernel_rfl
theorem on_tri : abugidalaw11_on.f 6 [0, 0, 128, 0, 0, 128] = some triB := by kernel_rfl
theorem on_mid : abugidalaw11_on.f 6 [32, 32, 96, 32, 96, 96, 32, 96] = some midB := by kernel_rfl
theorem on_cuR : abugidalaw11_on.f 6 [0, 0, 0, 64, 64, 64, 64, 0] = some cuR := by kernel_rfl
theorem is_sq : isB [sqB] 0 0 2 [3, 3] = true := by decide +kernel
theorem is_ro : isB [roB] 0 0 2 [3, 3] = true := by decide +kernel
theorem is_tri : isB [triB] 0 0 1 [1] = true := by decide +kernel
theorem is_mid : isB [midB] 0 0 1 [1] = true := by decide +kernel
theorem is_two : isB [cuA, cuR] 0 0 0 [] = true := by decide +kernel
theorem in_cu : scan_Inside.f 20 [cuB] 32 32 = some true := by decide +kernel
theorem far5 {w : World} {g : Nat} {cs : Array Value} {t : TypeId} (B : Blk w g cs t) {g' : Nat} (h : g ≠ g') (v0 v1 v2 v3 v4 : Value) : Blk (((((w.setCell ⟨g', 0, none⟩ v0).setCell ⟨g', 1, none⟩ v1).setCell ⟨g', 2, none⟩ v2).setCell ⟨g', 3, none⟩ v3).setCell ⟨g', 4, none⟩ v4) g cs t :=
  ((((B.far h 0 v0).far h 1 v1).far h 2 v2).far h 3 v3).far h 4 v4
theorem S5 {w : World} {gq gp : Nat} (B : Blk w gq #[.int .i64 1, .int .i64 2, .int .i64 2, .int .i64 1, .slice (some ⟨gp, 0, none⟩) 1 1] 36) : w.cell? ⟨gq, 0, none⟩ = some (.int .i64 1) ∧ w.cell? ⟨gq, 1, none⟩ = some (.int .i64 2) ∧ w.cell? ⟨gq, 2, none⟩ = some (.int .i64 2) ∧ w.cell? ⟨gq, 3, none⟩ = some (.int .i64 1) ∧ w.cell? ⟨gq, 4, none⟩ = some (.slice (some ⟨gp, 0, none⟩) 1 1) :=
  ⟨B.cell 0, B.cell 1, B.cell 2, B.cell 3, B.cell 4⟩
theorem or_b : orB ⟨1, 2, 2, 1, [2]⟩ ⟨2, 3, 2, 1, [2]⟩ = (⟨1, 2, 3, 2, [2, 4]⟩, 0) := by kernel_rfl
/-- a contour from its coordinates, written out -/
theorem on_lit (l : List Int) (r : List S30) (g : Nat) (t : TypeId) (w : World) (B : Blk w g (l.map (Value.int .i64)).toArray t) (hm : l.length ≤ 1000) (h : abugidalaw11_on.f 6 l = some r) (n : Nat) (hn : r.length = n) (hr : 0 < n) :
    Calls Tryd.prog 25 #[.slice (some ⟨g, 0, none⟩) l.length l.length] w fun e w' => ∃ g1 c1, e = .returned (.slice (some ⟨g1, 0, none⟩) n c1) ∧ w.heap.size ≤ g1 ∧ Kd.R k30 30 w' w.heap.size (fun _ => True) (.slice (some ⟨g1, 0, none⟩) n c1) r ∧ Below w.heap.size w w' := by
  subst hn
  refine (abugidalaw11_on.calls 6 (some ⟨g, 0, none⟩) l.length l r w (C_ints l B hm) (Nat.le_refl _) h).mono ?_
  rintro e w' ⟨v, rfl, hR, hb⟩
  obtain ⟨g1, c1, rfl, hg, _⟩ := Kd.R_form hR hr
  exact ⟨g1, c1, rfl, hg, hR, hb⟩
-- LEM12
theorem bset5 {w W : World} {g : Nat} (h : Below w.heap.size w W) (hg : w.heap.size ≤ g) (v0 v1 v2 v3 v4 : Value) : Below w.heap.size w (((((W.setCell ⟨g, 0, none⟩ v0).setCell ⟨g, 1, none⟩ v1).setCell ⟨g, 2, none⟩ v2).setCell ⟨g, 3, none⟩ v3).setCell ⟨g, 4, none⟩ v4) :=
  bset (bset (bset (bset (bset h hg 0 v0) hg 1 v1) hg 2 v2) hg 3 v3) hg 4 v4
theorem R_five {α : Type} {d : Kd α} {e : TypeId} {w : World} {base : Nat} {ok : Nat → Prop} {v : Value} {xs : List α} {g : Nat} {t : TypeId} {c0 c1 c2 c3 c4 : Value} (h : Kd.R d e w base ok v xs) (hb : Blk w g #[c0, c1, c2, c3, c4] t) (ht : ∀ q, q ∈ e :: d.E → q ≠ t) (v0 v1 v2 v3 v4 : Value) :
    Kd.R d e (((((w.setCell ⟨g, 0, none⟩ v0).setCell ⟨g, 1, none⟩ v1).setCell ⟨g, 2, none⟩ v2).setCell ⟨g, 3, none⟩ v3).setCell ⟨g, 4, none⟩ v4) base ok v xs :=
  Kd.R_set (Kd.R_set (Kd.R_set (Kd.R_set (Kd.R_set h hb ht 0 v0) (hb.set 0 v0) ht 1 v1) ((hb.set 0 v0).set 1 v1) ht 2 v2) (((hb.set 0 v0).set 1 v1).set 2 v2) ht 3 v3) ((((hb.set 0 v0).set 1 v1).set 2 v2).set 3 v3) ht 4 v4
theorem store_bm {w : World} {g : Nat} {t : TypeId} {c0 c1 c2 c3 c4 : Value} (hb : Blk w g #[c0, c1, c2, c3, c4] t) (L T W H : Int) (v : Value) (hv : v.oneCell' = true) :
    (Instr.storeAt 36 (.pointer (some ⟨g, 0, none⟩)) (.agg #[.int .i64 L, .int .i64 T, .int .i64 W, .int .i64 H, v])).run Tryd.prog w = .ok () (w.setCells g 0 [.int .i64 L, .int .i64 T, .int .i64 W, .int .i64 H, v]) ∧ Blk (w.setCells g 0 [.int .i64 L, .int .i64 T, .int .i64 W, .int .i64 H, v]) g #[.int .i64 L, .int .i64 T, .int .i64 W, .int .i64 H, v] t :=
  ⟨run_store_run _ _ [.int .i64 L, .int .i64 T, .int .i64 W, .int .i64 H, v] hb (by simp [Value.cells]) (by kernel_rfl) (by simp) (by intro q hq; simp at hq; rcases hq with rfl | rfl | rfl | rfl | rfl <;> first | rfl | exact hv),
   ((((hb.put 0 _ rfl).put 1 _ rfl).put 2 _ rfl).put 3 _ rfl).put 4 _ rfl⟩
theorem run_store_op {P : Program} {a : Act} {oi : Oper} {t : TypeId} {x v : Nat} {p y : Value} {w w1 : World} (ho : oi.op = Op.store t (.tmp x) (.tmp v)) (e1 : a.tmps[x]? = some p) (e2 : a.tmps[v]? = some y) (h : (Instr.storeAt t p y).run P w = .ok () w1) : (execOp a.eval oi).run P w = .ok .skip w1 := by
  unfold execOp
  rw [ho]
  simp only [eval_of e1, eval_of e2, Sem.run_bind, Sem.run_pure, Result.andThen_ok, h]
def scSan.T12 : Bool × List (List Nat × List Nat) := (true, [([], []), ([], []), ([1], [1]), ([0, 2, 2], [0, 2]), ([3], [3]), ([4], [4]), ([4], [4]), ([], []), ([7, 5, 3, 0, 1, 2, 3, 4, 5, 7], [5, 7]), ([6, 8, 0, 1, 2, 3, 4, 5, 6, 7, 8], [6])])
def scSan.B12 : List Nat := [0, 0, 2, 7, 15, 31, 31, 0, 191, 511]
theorem scSan.tab12 : rtab .any (opsOf Tryd.f11 12) = scSan.T12 := by kernel_rfl
theorem scSan.bits12 : waitsOk scSan.T12.2 scSan.B12 = true := by kernel_rfl
theorem mv_any (gp : Nat) (w : World) (h : Kd.C (Kd.int .u64) w (some ⟨gp, 0, none⟩) 1 [2]) : Calls Tryd.prog 24 #[.agg #[.int .i64 1, .int .i64 2, .int .i64 2, .int .i64 1, .slice (some ⟨gp, 0, none⟩) 1 1], .int .i64 1, .int .i64 1] w fun e w' => ∃ v, e = .returned (.agg #[.int .i64 2, .int .i64 3, .int .i64 2, .int .i64 1, v]) ∧ Kd.R (Kd.int .u64) 59 w' w.heap.size (fun _ => True) v [2] ∧ Below w.heap.size w w' :=
  move_right 1 2 2 1 1 1 (some ⟨gp, 0, none⟩) 1 [2] w h (by decide) (by decide) (by decide +kernel) (by decide) (by decide) (by decide) (by decide +kernel) (by decide) (by decide) (by decide)
theorem ri_b : rightB 1 2 2 1 [2] = true := by decide +kernel
theorem ge_b1 : scan_Get.f 1 2 2 1 [2] 2 2 = some true := by decide +kernel
theorem ge_b2 : scan_Get.f 1 2 2 1 [2] 1 2 = some false := by decide +kernel
theorem tr_b : trimB ⟨1, 2, 2, 1, [2]⟩ = ⟨2, 2, 1, 1, [1]⟩ := by kernel_rfl
theorem sa_b : abugidaref11_Same.f 3 2 2 1 1 [1] 2 2 1 1 [1] = some true := by kernel_rfl
theorem sa_j : abugidaref11_Same.f 4 1 2 3 2 [2, 4] 1 2 3 2 [2, 4] = some true := by kernel_rfl
theorem sc_b : scan_Same.f 3 1 2 2 1 [2] 1 2 2 1 [2] = some true := by kernel_rfl
theorem J5 {w : World} {gq : Nat} {v : Value} (B : Blk w gq #[.int .i64 1, .int .i64 2, .int .i64 3, .int .i64 2, v] 36) : w.cell? ⟨gq, 0, none⟩ = some (.int .i64 1) ∧ w.cell? ⟨gq, 1, none⟩ = some (.int .i64 2) ∧ w.cell? ⟨gq, 2, none⟩ = some (.int .i64 3) ∧ w.cell? ⟨gq, 3, none⟩ = some (.int .i64 2) ∧ w.cell? ⟨gq, 4, none⟩ = some v :=
  ⟨B.cell 0, B.cell 1, B.cell 2, B.cell 3, B.cell 4⟩
-- ENDLEM12
def offs : Nat → List S30 → List S30
  | 0, l => l
  | k + 1, l => (offs k l).set k ⟨((offs k l).getD k z30).f0, ((offs k l).getD k z30).f1, false⟩
theorem offs_sq : offs 4 sqB = roB := by kernel_rfl
theorem cu_off : cuA.set 1 ⟨(cuA.getD 1 z30).f0, (cuA.getD 1 z30).f1, false⟩ = cuB := by kernel_rfl
set_option maxRecDepth 100000 in
set_option maxHeartbeats 40000000 in
theorem sanity_any (w : World) (hT : Tab w) : Calls Tryd.prog 11 #[] w fun e w' => e = .returned (.bool true) ∧ Below w.heap.size w w' := by
  have hu36 := Tryd.underlying36
  have HT := Lib.hid hT
  clear hT
  go_enter Tryd.func11, Tryd.ntmps11
  go_wp2_with fail
  obtain ⟨w1, g1, hw, hg, B1, HB1, HN1⟩ := new_box w #[.int .i64 0, .int .i64 0, .int .i64 128, .int .i64 0, .int .i64 128, .int .i64 128, .int .i64 0, .int .i64 128] 3
  rw [hw, hg]
  clear hw hg HN1
  refine (on_lit [0, 0, 128, 0, 128, 128, 0, 128] sqB g1 _ w1 B1.out (by decide) on_sq 4 rfl (by decide)).mono ?_
  rintro e w2 ⟨gs, cs, rfl, hgs, hRs, hb⟩
  have HB2 := Lib.hid (bthen' HB1.out hb)
  have HS2 := Lib.hid (Kd.R_reads' hRs).2
  clear hb hRs hgs B1 HB1
  go_wp2_with fail
  obtain ⟨w3, g3, hw, hg, B3, HB3, HN3⟩ := new_box w2 #[.int .i64 0, .int .i64 0, .int .i64 64, .int .i64 0, .int .i64 64, .int .i64 64, .int .i64 0, .int .i64 64] 3
  rw [hw, hg]
  clear hw hg HN3
  refine (on_lit [0, 0, 64, 0, 64, 64, 0, 64] cuA g3 _ w3 B3.out (by decide) on_cu 4 rfl (by decide)).mono ?_
  rintro e w4 ⟨gc, cc, rfl, hgc, hRc, hb⟩
  have HB4 := Lib.hid (bthen' HB3.out hb)
  have hgc2 : w2.heap.size ≤ gc := by have := HB3.out.size; omega
  obtain ⟨hRo, hco, hfo⟩ := k30_off hRc 1 (by decide)
  have hcg : 4 ≤ cc := (Kd.R_reads' hRc).2.1
  rw [cu_off] at hRo
  rw [show 1 * 3 + 2 = 5 from rfl] at hco hfo hRo
  have HRo := Lib.hid (Kd.R_lower hRo (show w2.heap.size ≤ w3.heap.size from HB3.out.size))
  have HB5 := Lib.hid (bset HB4.out hgc2 5 (.bool false))
  clear hRo hRc hb B3 HB3 HB4
  go_upto_region 4 with fail
  clear hco hfo
  generalize World.setCell _ _ _ = w5 at *
  go_wp2_with fail
  obtain ⟨w6, g6, hw, hg, B6, HB6, HN6⟩ := new_box w5 #[.int .i64 0, .int .i64 0, .int .i64 128, .int .i64 0, .int .i64 128, .int .i64 128, .int .i64 0, .int .i64 128] 3
  rw [hw, hg]
  clear hw hg HN6
  refine (on_lit [0, 0, 128, 0, 128, 128, 0, 128] sqB g6 _ w6 B6.out (by decide) on_sq 4 rfl (by decide)).mono ?_
  rintro e w7 ⟨gr, cr, rfl, hgr, hRr, hb⟩
  have HB7 := Lib.hid (bthen' HB6.out hb)
  have hgr2 : w5.heap.size ≤ gr := by have := HB6.out.size; omega
  have HRr := Lib.hid (Kd.R_lower hRr (show w5.heap.size ≤ w6.heap.size from HB6.out.size))
  clear hRr hb B6 HB6
  have hcr : 4 ≤ cr := (Kd.R_reads' HRr.out).2.1
  go_wp2_with fail
  go_loopw [4] (fun i wr => ∃ k : Nat, k ≤ 4 ∧ i = .int .i64 k ∧ Hid (Kd.R k30 30 wr w5.heap.size (fun _ => True) (.slice (some ⟨gr, 0, none⟩) 4 cr) (offs k sqB)) ∧ Hid (Below w5.heap.size w5 wr)) (fun i _ => 4 - (intOf i).toNat)
  case atStart => exact ⟨0, Nat.zero_le _, rfl, HRr, HB7⟩
  case round =>
  obtain ⟨k, hk, rfl, HRk, HBk⟩ := hrel
  by_cases hlt : k < 4
  · obtain ⟨hRo, hco, hfo⟩ := k30_off HRk.out k hlt
    have hlt' : (k : Int) < 4 := by omega
    clear hlt
    go_wp2_with fail
    exact ⟨⟨k + 1, by omega, by go_num, Lib.hid hRo, Lib.hid (bset HBk.out hgr2 _ _)⟩, by simp [intOf]; omega⟩
  obtain rfl : k = 4 := by omega
  rw [offs_sq] at HRk
  have HQ := Lib.hid (bthen' HB2.out (bthen' HB5.out HBk.out))
  have CS := Lib.hid (Kd.C_below HS2.out.2 (bthen' HB5.out HBk.out))
  have LS := Lib.hid HS2.out.1
  have CC := Lib.hid (Kd.R_reads' (Kd.R_below HRo.out HBk.out)).2.2
  have CR := Lib.hid (Kd.R_reads' HRk.out).2.2
  clear hk hlt HRk HRo HS2 HB2 HB5 HBk HB7 HRr
  generalize hwr : wr = wo at *
  have HWO := Lib.hid hwr
  clear hwr
  have LC := Lib.hid hcg
  have LR := Lib.hid hcr
  go_upto_region 9 with fail
  -- GEN9
  have HX0 := Lib.hid (Below.refl wo.heap.size wo)
  go_wp2_with fail
  obtain ⟨v101, gv101, hwv101, hgv101, Bv101, HBv101, _⟩ := new_box wo #[.slice (some ⟨gs, 0, none⟩) 4 cs] 28
  obtain ⟨v102, gv102, hwv102, hgv102, Bv102, HBv102, _⟩ := new_box v101 #[.int .u64 3, .int .u64 3] 59
  have egv102 : gv101 + 1 = gv102 := by rw [← hgv102, ← hwv101, World.size_alloc, hgv101]
  rw [hwv101, hwv102, hgv101, egv102]
  have HXv102 := Lib.hid (bthen' HX0.out (bthen' HBv101.out HBv102.out))
  clear hwv101 hwv102 hgv101 hgv102 egv102
  refine (is_any (some ⟨gv101, 0, none⟩) 1 [sqB] 0 0 2 (some ⟨gv102, 0, none⟩) 2 [3, 3] v102 (HT.out.below (bthen' HQ.out HXv102.out)) (C_rows1 (Bv101.out.below HBv102.out) LS.out (Kd.C_below CS.out HXv102.out)) (by decide) (by decide) (C_ints [3, 3] Bv102.out (by decide)) (by decide)).mono ?_
  rintro e v103 ⟨rfl, hb⟩
  rw [is_sq]
  have HXv103 := Lib.hid (bthen' HXv102.out hb)
  clear hb Bv101 Bv102 HBv101 HBv102
  go_wp2_with fail
  obtain ⟨v104, gv104, hwv104, hgv104, Bv104, HBv104, _⟩ := new_box v103 #[.int .i64 0, .int .i64 0, .int .i64 128, .int .i64 0, .int .i64 0, .int .i64 128] 3
  rw [hwv104, hgv104]
  have HXv104 := Lib.hid (bthen' HXv103.out HBv104.out)
  clear hwv104 hgv104 
  refine (on_lit [0, 0, 128, 0, 0, 128] _ gv104 _ v104 Bv104.out (by decide) on_tri 3 rfl (by decide)).mono ?_
  rintro e v105 ⟨gpv105, cpv105, rfl, _, hR, hb⟩
  have Cv105 := Lib.hid (Kd.R_reads' hR).2.2
  have Lv105 := Lib.hid (Kd.R_reads' hR).2.1
  have HXv105 := Lib.hid (bthen' HXv104.out hb)
  clear hb hR Bv104 HBv104
  have Rv105 := Lib.hid (Below.refl v105.heap.size v105)
  go_wp2_with fail
  obtain ⟨v106, gv106, hwv106, hgv106, Bv106, HBv106, _⟩ := new_box v105 #[.slice (some ⟨gpv105, 0, none⟩) 3 cpv105] 28
  obtain ⟨v107, gv107, hwv107, hgv107, Bv107, HBv107, _⟩ := new_box v106 #[.int .u64 1] 59
  have egv107 : gv106 + 1 = gv107 := by rw [← hgv107, ← hwv106, World.size_alloc, hgv106]
  rw [hwv106, hwv107, hgv106, egv107]
  have HXv107 := Lib.hid (bthen' HXv105.out (bthen' HBv106.out HBv107.out))
  have Hv105v107 := Lib.hid (bthen' Rv105.out (bthen' HBv106.out HBv107.out))
  clear hwv106 hwv107 hgv106 hgv107 egv107
  refine (is_any (some ⟨gv106, 0, none⟩) 1 [triB] 0 0 1 (some ⟨gv107, 0, none⟩) 1 [1] v107 (HT.out.below (bthen' HQ.out HXv107.out)) (C_rows1 (Bv106.out.below HBv107.out) Lv105.out (Kd.C_below Cv105.out Hv105v107.out)) (by decide) (by decide) (C_ints [1] Bv107.out (by decide)) (by decide)).mono ?_
  rintro e v108 ⟨rfl, hb⟩
  rw [is_tri]
  have HXv108 := Lib.hid (bthen' HXv107.out hb)
  have Hv105v108 := Lib.hid (bthen' Hv105v107.out hb)
  clear hb Bv106 Bv107 HBv106 HBv107
  go_wp2_with fail
  obtain ⟨v109, gv109, hwv109, hgv109, Bv109, HBv109, _⟩ := new_box v108 #[.int .i64 32, .int .i64 32, .int .i64 96, .int .i64 32, .int .i64 96, .int .i64 96, .int .i64 32, .int .i64 96] 3
  rw [hwv109, hgv109]
  have HXv109 := Lib.hid (bthen' HXv108.out HBv109.out)
  clear hwv109 hgv109 
  refine (on_lit [32, 32, 96, 32, 96, 96, 32, 96] _ gv109 _ v109 Bv109.out (by decide) on_mid 4 rfl (by decide)).mono ?_
  rintro e v110 ⟨gpv110, cpv110, rfl, _, hR, hb⟩
  have Cv110 := Lib.hid (Kd.R_reads' hR).2.2
  have Lv110 := Lib.hid (Kd.R_reads' hR).2.1
  have HXv110 := Lib.hid (bthen' HXv109.out hb)
  clear hb hR Bv109 HBv109
  have Rv110 := Lib.hid (Below.refl v110.heap.size v110)
  go_wp2_with fail
  obtain ⟨v111, gv111, hwv111, hgv111, Bv111, HBv111, _⟩ := new_box v110 #[.slice (some ⟨gpv110, 0, none⟩) 4 cpv110] 28
  obtain ⟨v112, gv112, hwv112, hgv112, Bv112, HBv112, _⟩ := new_box v111 #[.int .u64 1] 59
  have egv112 : gv111 + 1 = gv112 := by rw [← hgv112, ← hwv111, World.size_alloc, hgv111]
  rw [hwv111, hwv112, hgv111, egv112]
  have HXv112 := Lib.hid (bthen' HXv110.out (bthen' HBv111.out HBv112.out))
  have Hv110v112 := Lib.hid (bthen' Rv110.out (bthen' HBv111.out HBv112.out))
  clear hwv111 hwv112 hgv111 hgv112 egv112
  refine (is_any (some ⟨gv111, 0, none⟩) 1 [midB] 0 0 1 (some ⟨gv112, 0, none⟩) 1 [1] v112 (HT.out.below (bthen' HQ.out HXv112.out)) (C_rows1 (Bv111.out.below HBv112.out) Lv110.out (Kd.C_below Cv110.out Hv110v112.out)) (by decide) (by decide) (C_ints [1] Bv112.out (by decide)) (by decide)).mono ?_
  rintro e v113 ⟨rfl, hb⟩
  rw [is_mid]
  have HXv113 := Lib.hid (bthen' HXv112.out hb)
  have Hv110v113 := Lib.hid (bthen' Hv110v112.out hb)
  clear hb Bv111 Bv112 HBv111 HBv112
  go_wp2_with fail
  obtain ⟨v114, gv114, hwv114, hgv114, Bv114, HBv114, _⟩ := new_box v113 #[.slice (some ⟨gc, 0, none⟩) 4 cc] 28
  rw [hwv114, hgv114]
  have HXv114 := Lib.hid (bthen' HXv113.out HBv114.out)
  clear hwv114 hgv114 
  refine (scan_Inside.calls 20 (some ⟨gv114, 0, none⟩) 1 [cuB] 32 32 true v114 (C_rows1 Bv114.out LC.out (Kd.C_below CC.out HXv114.out)) (by decide) in_cu).mono ?_
  rintro e v115 ⟨rfl, hb⟩
  have HXv115 := Lib.hid (bthen' HXv114.out hb)
  clear hb Bv114 HBv114
  go_wp2_with fail
  obtain ⟨v116, gv116, hwv116, hgv116, Bv116, HBv116, _⟩ := new_box v115 #[.slice (some ⟨gr, 0, none⟩) 4 cr] 28
  obtain ⟨v117, gv117, hwv117, hgv117, Bv117, HBv117, _⟩ := new_box v116 #[.int .u64 3, .int .u64 3] 59
  have egv117 : gv116 + 1 = gv117 := by rw [← hgv117, ← hwv116, World.size_alloc, hgv116]
  rw [hwv116, hwv117, hgv116, egv117]
  have HXv117 := Lib.hid (bthen' HXv115.out (bthen' HBv116.out HBv117.out))
  clear hwv116 hwv117 hgv116 hgv117 egv117
  refine (is_any (some ⟨gv116, 0, none⟩) 1 [roB] 0 0 2 (some ⟨gv117, 0, none⟩) 2 [3, 3] v117 (HT.out.below (bthen' HQ.out HXv117.out)) (C_rows1 (Bv116.out.below HBv117.out) LR.out (Kd.C_below CR.out HXv117.out)) (by decide) (by decide) (C_ints [3, 3] Bv117.out (by decide)) (by decide)).mono ?_
  rintro e v118 ⟨rfl, hb⟩
  rw [is_ro]
  have HXv118 := Lib.hid (bthen' HXv117.out hb)
  clear hb Bv116 Bv117 HBv116 HBv117
  go_wp2_with fail
  obtain ⟨v119, gv119, hwv119, hgv119, Bv119, HBv119, _⟩ := new_box v118 #[.int .i64 0, .int .i64 0, .int .i64 64, .int .i64 0, .int .i64 64, .int .i64 64, .int .i64 0, .int .i64 64] 3
  rw [hwv119, hgv119]
  have HXv119 := Lib.hid (bthen' HXv118.out HBv119.out)
  clear hwv119 hgv119 
  refine (on_lit [0, 0, 64, 0, 64, 64, 0, 64] _ gv119 _ v119 Bv119.out (by decide) on_cu 4 rfl (by decide)).mono ?_
  rintro e v120 ⟨gpv120, cpv120, rfl, _, hR, hb⟩
  have Cv120 := Lib.hid (Kd.R_reads' hR).2.2
  have Lv120 := Lib.hid (Kd.R_reads' hR).2.1
  have HXv120 := Lib.hid (bthen' HXv119.out hb)
  clear hb hR Bv119 HBv119
  have Rv120 := Lib.hid (Below.refl v120.heap.size v120)
  go_wp2_with fail
  obtain ⟨v121, gv121, hwv121, hgv121, Bv121, HBv121, _⟩ := new_box v120 #[.int .i64 0, .int .i64 0, .int .i64 0, .int .i64 64, .int .i64 64, .int .i64 64, .int .i64 64, .int .i64 0] 3
  rw [hwv121, hgv121]
  have HXv121 := Lib.hid (bthen' HXv120.out HBv121.out)
  have Hv120v121 := Lib.hid (bthen' Rv120.out HBv121.out)
  clear hwv121 hgv121 
  refine (on_lit [0, 0, 0, 64, 64, 64, 64, 0] _ gv121 _ v121 Bv121.out (by decide) on_cuR 4 rfl (by decide)).mono ?_
  rintro e v122 ⟨gpv122, cpv122, rfl, _, hR, hb⟩
  have Cv122 := Lib.hid (Kd.R_reads' hR).2.2
  have Lv122 := Lib.hid (Kd.R_reads' hR).2.1
  have HXv122 := Lib.hid (bthen' HXv121.out hb)
  have Hv120v122 := Lib.hid (bthen' Hv120v121.out hb)
  clear hb hR Bv121 HBv121
  have Rv122 := Lib.hid (Below.refl v122.heap.size v122)
  go_wp2_with fail
  obtain ⟨v123, gv123, hwv123, hgv123, Bv123, HBv123, _⟩ := new_box v122 #[.slice (some ⟨gpv120, 0, none⟩) 4 cpv120, .slice (some ⟨gpv122, 0, none⟩) 4 cpv122] 28
  rw [hwv123, hgv123]
  have HXv123 := Lib.hid (bthen' HXv122.out HBv123.out)
  have Hv120v123 := Lib.hid (bthen' Hv120v122.out HBv123.out)
  have Hv122v123 := Lib.hid (bthen' Rv122.out HBv123.out)
  clear hwv123 hgv123 
  refine (is_any (some ⟨gv123, 0, none⟩) 2 [cuA, cuR] 0 0 0 none 0 [] v123 (HT.out.below (bthen' HQ.out HXv123.out)) (C_rows2 Bv123.out Lv120.out (Kd.C_below Cv120.out Hv120v123.out) Lv122.out (Kd.C_below Cv122.out Hv122v123.out)) (by decide) (by decide) (Kd.R_reads' (Kd.R_nil (Kd.int .u64) 0 v123 0 (fun _ => True))).2.2 (by decide)).mono ?_
  rintro e v124 ⟨rfl, hb⟩
  rw [is_two]
  have HXv124 := Lib.hid (bthen' HXv123.out hb)
  have Hv120v124 := Lib.hid (bthen' Hv120v123.out hb)
  have Hv122v124 := Lib.hid (bthen' Hv122v123.out hb)
  clear hb Bv123 HBv123
  go_wp2_with fail
  have HXq := HXv124
  -- END9 v124
  obtain ⟨wa, gp, hw, hg, BP, HBP, _⟩ := new_box v124 #[.int .u64 2] 59
  obtain ⟨wb, gq, hw2, hg2, BQ, HBQ, _⟩ := new_box wa #[.int .i64 1, .int .i64 2, .int .i64 2, .int .i64 1, .slice (some ⟨gp, 0, none⟩) 1 1] 36
  have eg : gp + 1 = gq := by rw [← hg2, ← hw, World.size_alloc, hg]
  rw [hg, hw, hw2, eg]
  have HZ := Lib.hid (bthen' HXv124.out (bthen' HBP.out HBQ.out))
  have HZ0 := Lib.hid (bthen' HQ.out HZ.out)
  have BP2 := Lib.hid (BP.out.below HBQ.out)
  have CP := Lib.hid (C_ints [2] BP2.out (by decide))
  have BQ0 := Lib.hid BQ.out
  have QL := Lib.hid BQ.out.lt
  clear hw hw2 hg hg2 eg HXv124 BP BQ HBP HBQ BP2 HZ HXq
  clear HQ CS LS CC CR LC LR
  clear HWO
  refine start_ (n := 10) (S := fun w' => True) (ds := []) #[false, false, false, false, false, false, false, false, false, false] (by kernel_rfl) rfl rfl trivial (fun hHeld => ?_)
  refine with_tabW scSan.tab12 scSan.bits12 (fun HT_ HW_ => ?_)
  have BQ : Aside0 (Blk wb.drew gq #[.int .i64 1, .int .i64 2, .int .i64 2, .int .i64 1, .slice (some ⟨gp, 0, none⟩) 1 1] 36) := ⟨BQ0.out.drew⟩
  have HB : Aside0 (Below wb.heap.size wb wb.drew) := ⟨below_drew (Below.refl _ _)⟩
  generalize hwd : wb.drew = w1' at *
  clear hwd
  refine inv_at [0, 1, 2, 3, 4, 5, 6, 7, 8, 9] (fun a0_ b a w' => ∃ (v1 : Value) (v2 : Value) (gj : Nat) (m2_ : Value) (m3_ : Value) (m4_ : Value) (m5_ : Value) (m7_ : Value), a = putSel a0_ b [(0, 66, .agg #[.int .i64 1, .int .i64 2, .int .i64 2, .int .i64 1, .slice (some ⟨gp, 0, none⟩) 1 1]), (1, 67, .agg #[.int .i64 1, .int .i64 2, .int .i64 2, .int .i64 1, .slice (some ⟨gp, 0, none⟩) 1 1]), (2, 68, m2_), (3, 69, m3_), (4, 65, m4_), (5, 70, m5_), (6, 71, .int .i64 0), (7, 8, m7_), (9, 9, .int .i64 0)] ∧ (Blk w' gq #[.int .i64 1, .int .i64 2, .int .i64 2, .int .i64 1, .slice (some ⟨gp, 0, none⟩) 1 1] 36) ∧ (Below wb.heap.size wb w') ∧ (b 2 = true → b 3 = false → Kd.R (Kd.int .u64) 59 w' wb.heap.size (fun _ => True) v1 [2]) ∧ (b 3 = true → Kd.R (Kd.int .u64) 59 w' wb.heap.size (fun _ => True) v2 [2, 4]) ∧ (b 7 = true → b 8 = false → Blk w' gj #[.int .i64 0, .int .i64 0, .int .i64 0, .int .i64 0, .slice none 0 0] 36) ∧ (b 7 = true → wb.heap.size ≤ gj) ∧ (b 8 = true → Blk w' gj #[.int .i64 1, .int .i64 2, .int .i64 3, .int .i64 2, v2] 36) ∧ (b 2 = true → (m2_ : Value) = .agg #[.int .i64 2, .int .i64 3, .int .i64 2, .int .i64 1, v1]) ∧ (b 3 = true → (m3_ : Value) = .tuple #[.agg #[.int .i64 1, .int .i64 2, .int .i64 3, .int .i64 2, v2], .int .i64 0]) ∧ (b 4 = true → (m4_ : Value) = .tuple #[.agg #[.int .i64 1, .int .i64 2, .int .i64 3, .int .i64 2, v2], .int .i64 0]) ∧ (b 5 = true → (m5_ : Value) = .agg #[.int .i64 1, .int .i64 2, .int .i64 3, .int .i64 2, v2]) ∧ (b 7 = true → (m7_ : Value) = .pointer (some ⟨gj, 0, none⟩))) HT_.out HW_.out (by kernel_rfl) (by kernel_rfl) ?_ ?_ ?_
  · exact ⟨undef, undef, 0, .bool false, .bool false, .bool false, .bool false, .bool false, by simp only [putSel, Bool.false_eq_true, if_false], BQ.out, HB.out, fun h_ => absurd h_ (by decide), fun h_ => absurd h_ (by decide), fun h_ => absurd h_ (by decide), fun h_ => absurd h_ (by decide), fun h_ => absurd h_ (by decide), fun h_ => absurd h_ (by decide), fun h_ => absurd h_ (by decide), fun h_ => absurd h_ (by decide), fun h_ => absurd h_ (by decide), fun h_ => absurd h_ (by decide)⟩
  · skip
    clear BQ HB
    refine steps_cons ?_ ?_
    · rintro b a w' ⟨v1, v2, gj, m2_, m3_, m4_, m5_, m7_, ha, Q_BQ, Q_HB, Q_R1, Q_R2, Q_N0, Q_NG, Q_N1, Q_X2_, Q_X3_, Q_X4_, Q_X5_, Q_X7_⟩ hb_ hon hoff
      refine ⟨_, rfl, fun K hK => ?_⟩
      have e7 : a.tmps[7]? = some (.pointer (some ⟨gq, 0, none⟩)) := by rw [ha]; exact (putSel_off rfl).trans rfl
      replace ha := Aside0.mk ha
      have BQ := Aside0.mk Q_BQ
      have HB := Aside0.mk Q_HB
      have q0 : w'.cell? ⟨gq, 0, none⟩ = some (.int .i64 1) := BQ.out.cell 0
      have q1 : w'.cell? ⟨gq, 1, none⟩ = some (.int .i64 2) := BQ.out.cell 1
      have q2 : w'.cell? ⟨gq, 2, none⟩ = some (.int .i64 2) := BQ.out.cell 2
      have q3 : w'.cell? ⟨gq, 3, none⟩ = some (.int .i64 1) := BQ.out.cell 3
      have q4 : w'.cell? ⟨gq, 4, none⟩ = some (.slice (some ⟨gp, 0, none⟩) 1 1) := BQ.out.cell 4
      refine value_ (w1 := w') (v := .agg #[.int .i64 1, .int .i64 2, .int .i64 2, .int .i64 1, .slice (some ⟨gp, 0, none⟩) 1 1]) (by rfl) rfl ?_ ?_
      · go_simp
        (try simp only [i64_w])
        try rfl
      refine hK.out _ _ ⟨v1, v2, gj, m2_, m3_, m4_, m5_, m7_, (by rw [ha.out]; exact putSel_upk 0 hb_ rfl rfl rfl), Q_BQ, Q_HB, Q_R1, fun h0_ => absurd ((hoff 3 (by kernel_rfl)).symm.trans h0_) (by decide), Q_N0, Q_NG, fun h0_ => absurd ((hoff 8 (by kernel_rfl)).symm.trans h0_) (by decide), Q_X2_, fun h0_ => absurd ((hoff 3 (by kernel_rfl)).symm.trans h0_) (by decide), fun h0_ => absurd ((hoff 4 (by kernel_rfl)).symm.trans h0_) (by decide), fun h0_ => absurd ((hoff 5 (by kernel_rfl)).symm.trans h0_) (by decide), Q_X7_⟩
    refine steps_cons ?_ ?_
    · rintro b a w' ⟨v1, v2, gj, m2_, m3_, m4_, m5_, m7_, ha, Q_BQ, Q_HB, Q_R1, Q_R2, Q_N0, Q_NG, Q_N1, Q_X2_, Q_X3_, Q_X4_, Q_X5_, Q_X7_⟩ hb_ hon hoff
      refine ⟨_, rfl, fun K hK => ?_⟩
      have e7 : a.tmps[7]? = some (.pointer (some ⟨gq, 0, none⟩)) := by rw [ha]; exact (putSel_off rfl).trans rfl
      replace ha := Aside0.mk ha
      have BQ := Aside0.mk Q_BQ
      have HB := Aside0.mk Q_HB
      have q0 : w'.cell? ⟨gq, 0, none⟩ = some (.int .i64 1) := BQ.out.cell 0
      have q1 : w'.cell? ⟨gq, 1, none⟩ = some (.int .i64 2) := BQ.out.cell 1
      have q2 : w'.cell? ⟨gq, 2, none⟩ = some (.int .i64 2) := BQ.out.cell 2
      have q3 : w'.cell? ⟨gq, 3, none⟩ = some (.int .i64 1) := BQ.out.cell 3
      have q4 : w'.cell? ⟨gq, 4, none⟩ = some (.slice (some ⟨gp, 0, none⟩) 1 1) := BQ.out.cell 4
      refine value_ (w1 := w') (v := .agg #[.int .i64 1, .int .i64 2, .int .i64 2, .int .i64 1, .slice (some ⟨gp, 0, none⟩) 1 1]) (by rfl) rfl ?_ ?_
      · go_simp
        (try simp only [i64_w])
        try rfl
      refine hK.out _ _ ⟨v1, v2, gj, m2_, m3_, m4_, m5_, m7_, (by rw [ha.out]; exact putSel_upk 1 hb_ rfl rfl rfl), Q_BQ, Q_HB, fun h0_ _ => absurd ((hoff 2 (by kernel_rfl)).symm.trans h0_) (by decide), fun h0_ => absurd ((hoff 3 (by kernel_rfl)).symm.trans h0_) (by decide), Q_N0, Q_NG, fun h0_ => absurd ((hoff 8 (by kernel_rfl)).symm.trans h0_) (by decide), fun h0_ => absurd ((hoff 2 (by kernel_rfl)).symm.trans h0_) (by decide), fun h0_ => absurd ((hoff 3 (by kernel_rfl)).symm.trans h0_) (by decide), fun h0_ => absurd ((hoff 4 (by kernel_rfl)).symm.trans h0_) (by decide), fun h0_ => absurd ((hoff 5 (by kernel_rfl)).symm.trans h0_) (by decide), Q_X7_⟩
    refine steps_cons ?_ ?_
    · rintro b a w' ⟨v1, v2, gj, m2_, m3_, m4_, m5_, m7_, ha, Q_BQ, Q_HB, Q_R1, Q_R2, Q_N0, Q_NG, Q_N1, Q_X2_, Q_X3_, Q_X4_, Q_X5_, Q_X7_⟩ hb_ hon hoff
      refine ⟨_, rfl, fun K hK => ?_⟩
      have e67 : a.tmps[67]? = some (.agg #[.int .i64 1, .int .i64 2, .int .i64 2, .int .i64 1, .slice (some ⟨gp, 0, none⟩) 1 1]) := by rw [ha]; exact putSel_on (e := (1, 67, .agg #[.int .i64 1, .int .i64 2, .int .i64 2, .int .i64 1, .slice (some ⟨gp, 0, none⟩) 1 1])) 1 rfl rfl (hon 1 (by kernel_rfl)) rfl
      replace ha := Aside0.mk ha
      have BQ := Aside0.mk Q_BQ
      have HB := Aside0.mk Q_HB
      refine call_ 24 #[.agg #[.int .i64 1, .int .i64 2, .int .i64 2, .int .i64 1, .slice (some ⟨gp, 0, none⟩) 1 1], .int .i64 1, .int .i64 1] (by rfl) rfl ?_ ?_
      · go_simp
      refine (mv_any gp w' (Kd.C_below CP.out HB.out)).mono ?_
      rintro e w2 ⟨vv, rfl, hR, hb⟩
      refine ⟨_, rfl, ?_⟩
      refine hK.out _ _ ⟨vv, v2, gj, (.agg #[.int .i64 2, .int .i64 3, .int .i64 2, .int .i64 1, vv]), m3_, m4_, m5_, m7_, (by rw [ha.out]; exact putSel_upk 2 hb_ rfl rfl rfl), BQ.out.below hb, bthen' HB.out hb, fun _ _ => Kd.R_lower hR HB.out.size, fun h0_ => absurd ((hoff 3 (by kernel_rfl)).symm.trans h0_) (by decide), fun h0_ h1_ => (Q_N0 h0_ h1_).below hb, Q_NG, fun h0_ => absurd ((hoff 8 (by kernel_rfl)).symm.trans h0_) (by decide), fun _ => rfl, fun h0_ => absurd ((hoff 3 (by kernel_rfl)).symm.trans h0_) (by decide), fun h0_ => absurd ((hoff 4 (by kernel_rfl)).symm.trans h0_) (by decide), fun h0_ => absurd ((hoff 5 (by kernel_rfl)).symm.trans h0_) (by decide), Q_X7_⟩
    refine steps_cons ?_ ?_
    · rintro b a w' ⟨v1, v2, gj, m2_, m3_, m4_, m5_, m7_, ha, Q_BQ, Q_HB, Q_R1, Q_R2, Q_N0, Q_NG, Q_N1, Q_X2_, Q_X3_, Q_X4_, Q_X5_, Q_X7_⟩ hb_ hon hoff
      refine ⟨_, rfl, fun K hK => ?_⟩
      have e66 : a.tmps[66]? = some (.agg #[.int .i64 1, .int .i64 2, .int .i64 2, .int .i64 1, .slice (some ⟨gp, 0, none⟩) 1 1]) := by rw [ha]; exact putSel_on (e := (0, 66, .agg #[.int .i64 1, .int .i64 2, .int .i64 2, .int .i64 1, .slice (some ⟨gp, 0, none⟩) 1 1])) 0 rfl rfl (hon 0 (by kernel_rfl)) rfl
      have e68 : a.tmps[68]? = some (m2_) := by rw [ha]; exact putSel_on (e := (2, 68, m2_)) 2 rfl rfl (hon 2 (by kernel_rfl)) rfl
      rw [Q_X2_ (hon 2 (by kernel_rfl))] at e68
      replace ha := Aside0.mk ha
      have BQ := Aside0.mk Q_BQ
      have HB := Aside0.mk Q_HB
      have R1 := Aside0.mk (Q_R1 (hon 2 (by kernel_rfl)) hb_)
      obtain ⟨A1, c1, rfl⟩ := Kd.R_slice R1.out
      refine call_ 27 #[.agg #[.int .i64 1, .int .i64 2, .int .i64 2, .int .i64 1, .slice (some ⟨gp, 0, none⟩) 1 1], .agg #[.int .i64 2, .int .i64 3, .int .i64 2, .int .i64 1, .slice A1 1 c1]] (by rfl) rfl ?_ ?_
      · go_simp
      refine (or_any ⟨1, 2, 2, 1, [2]⟩ ⟨2, 3, 2, 1, [2]⟩ (some ⟨gp, 0, none⟩) A1 1 c1 w' (Kd.C_below CP.out HB.out) (by decide) (by decide) (Kd.R_reads' R1.out).2.2 (Kd.R_reads' R1.out).2.1 (by decide)).mono ?_
      rintro e w2 ⟨vv, rfl, hR, hb⟩
      rw [or_b] at hR ⊢
      refine ⟨_, rfl, ?_⟩
      refine hK.out _ _ ⟨(.slice A1 1 c1), vv, gj, m2_, (.tuple #[.agg #[.int .i64 1, .int .i64 2, .int .i64 3, .int .i64 2, vv], .int .i64 0]), m4_, m5_, m7_, (by rw [ha.out]; exact putSel_upk 3 hb_ rfl rfl rfl), BQ.out.below hb, bthen' HB.out hb, fun _ h1_ => absurd ((up_self b 3).symm.trans h1_) (by decide), fun _ => Kd.R_lower hR HB.out.size, fun h0_ h1_ => (Q_N0 h0_ h1_).below hb, Q_NG, fun h0_ => absurd ((hoff 8 (by kernel_rfl)).symm.trans h0_) (by decide), Q_X2_, fun _ => rfl, fun h0_ => absurd ((hoff 4 (by kernel_rfl)).symm.trans h0_) (by decide), fun h0_ => absurd ((hoff 5 (by kernel_rfl)).symm.trans h0_) (by decide), Q_X7_⟩
    refine steps_cons ?_ ?_
    · rintro b a w' ⟨v1, v2, gj, m2_, m3_, m4_, m5_, m7_, ha, Q_BQ, Q_HB, Q_R1, Q_R2, Q_N0, Q_NG, Q_N1, Q_X2_, Q_X3_, Q_X4_, Q_X5_, Q_X7_⟩ hb_ hon hoff
      refine ⟨_, rfl, fun K hK => ?_⟩
      have e69 : a.tmps[69]? = some (m3_) := by rw [ha]; exact putSel_on (e := (3, 69, m3_)) 3 rfl rfl (hon 3 (by kernel_rfl)) rfl
      rw [Q_X3_ (hon 3 (by kernel_rfl))] at e69
      replace ha := Aside0.mk ha
      have BQ := Aside0.mk Q_BQ
      have HB := Aside0.mk Q_HB
      have R2 := Aside0.mk (Q_R2 (hon 3 (by kernel_rfl)))
      refine value_ (w1 := w') (v := .tuple #[.agg #[.int .i64 1, .int .i64 2, .int .i64 3, .int .i64 2, v2], .int .i64 0]) (by rfl) rfl ?_ ?_
      · go_simp
        (try simp only [i64_w])
        try rfl
      refine hK.out _ _ ⟨v1, v2, gj, m2_, m3_, (.tuple #[.agg #[.int .i64 1, .int .i64 2, .int .i64 3, .int .i64 2, v2], .int .i64 0]), m5_, m7_, (by rw [ha.out]; exact putSel_upk 4 hb_ rfl rfl rfl), Q_BQ, Q_HB, fun _ h1_ => absurd ((hon 3 (by kernel_rfl)).symm.trans h1_) (by decide), Q_R2, Q_N0, Q_NG, fun h0_ => absurd ((hoff 8 (by kernel_rfl)).symm.trans h0_) (by decide), Q_X2_, Q_X3_, fun _ => rfl, fun h0_ => absurd ((hoff 5 (by kernel_rfl)).symm.trans h0_) (by decide), Q_X7_⟩
    refine steps_cons ?_ ?_
    · rintro b a w' ⟨v1, v2, gj, m2_, m3_, m4_, m5_, m7_, ha, Q_BQ, Q_HB, Q_R1, Q_R2, Q_N0, Q_NG, Q_N1, Q_X2_, Q_X3_, Q_X4_, Q_X5_, Q_X7_⟩ hb_ hon hoff
      refine ⟨_, rfl, fun K hK => ?_⟩
      have e65 : a.tmps[65]? = some (m4_) := by rw [ha]; exact putSel_on (e := (4, 65, m4_)) 4 rfl rfl (hon 4 (by kernel_rfl)) rfl
      rw [Q_X4_ (hon 4 (by kernel_rfl))] at e65
      replace ha := Aside0.mk ha
      have BQ := Aside0.mk Q_BQ
      have HB := Aside0.mk Q_HB
      have R2 := Aside0.mk (Q_R2 (hon 3 (by kernel_rfl)))
      refine value_ (w1 := w') (v := .agg #[.int .i64 1, .int .i64 2, .int .i64 3, .int .i64 2, v2]) (by rfl) rfl ?_ ?_
      · go_simp
        (try simp only [i64_w])
        try rfl
      refine hK.out _ _ ⟨v1, v2, gj, m2_, m3_, m4_, (.agg #[.int .i64 1, .int .i64 2, .int .i64 3, .int .i64 2, v2]), m7_, (by rw [ha.out]; exact putSel_upk 5 hb_ rfl rfl rfl), Q_BQ, Q_HB, fun _ h1_ => absurd ((hon 3 (by kernel_rfl)).symm.trans h1_) (by decide), Q_R2, Q_N0, Q_NG, fun h0_ => absurd ((hoff 8 (by kernel_rfl)).symm.trans h0_) (by decide), Q_X2_, Q_X3_, Q_X4_, fun _ => rfl, Q_X7_⟩
    refine steps_cons ?_ ?_
    · rintro b a w' ⟨v1, v2, gj, m2_, m3_, m4_, m5_, m7_, ha, Q_BQ, Q_HB, Q_R1, Q_R2, Q_N0, Q_NG, Q_N1, Q_X2_, Q_X3_, Q_X4_, Q_X5_, Q_X7_⟩ hb_ hon hoff
      refine ⟨_, rfl, fun K hK => ?_⟩
      have e65 : a.tmps[65]? = some (m4_) := by rw [ha]; exact putSel_on (e := (4, 65, m4_)) 4 rfl rfl (hon 4 (by kernel_rfl)) rfl
      rw [Q_X4_ (hon 4 (by kernel_rfl))] at e65
      replace ha := Aside0.mk ha
      have BQ := Aside0.mk Q_BQ
      have HB := Aside0.mk Q_HB
      have R2 := Aside0.mk (Q_R2 (hon 3 (by kernel_rfl)))
      refine value_ (w1 := w') (v := .int .i64 0) (by rfl) rfl ?_ ?_
      · go_simp
        (try simp only [i64_w])
        try rfl
      refine hK.out _ _ ⟨v1, v2, gj, m2_, m3_, m4_, m5_, m7_, (by rw [ha.out]; exact putSel_upk 6 hb_ rfl rfl rfl), Q_BQ, Q_HB, fun _ h1_ => absurd ((hon 3 (by kernel_rfl)).symm.trans h1_) (by decide), Q_R2, Q_N0, Q_NG, Q_N1, Q_X2_, Q_X3_, Q_X4_, Q_X5_, Q_X7_⟩
    refine steps_cons ?_ ?_
    · rintro b a w' ⟨v1, v2, gj, m2_, m3_, m4_, m5_, m7_, ha, Q_BQ, Q_HB, Q_R1, Q_R2, Q_N0, Q_NG, Q_N1, Q_X2_, Q_X3_, Q_X4_, Q_X5_, Q_X7_⟩ hb_ hon hoff
      refine ⟨_, rfl, fun K hK => ?_⟩
      replace ha := Aside0.mk ha
      have BQ := Aside0.mk Q_BQ
      have HB := Aside0.mk Q_HB
      refine value_ (w1 := w'.alloc (.cells #[.int .i64 0, .int .i64 0, .int .i64 0, .int .i64 0, .slice none 0 0] 36)) (v := .pointer (some ⟨w'.heap.size, 0, none⟩)) (by rfl) rfl ?_ ?_
      · go_simp
      refine hK.out _ _ ⟨v1, v2, w'.heap.size, m2_, m3_, m4_, m5_, (.pointer (some ⟨w'.heap.size, 0, none⟩)), (by rw [ha.out]; exact putSel_upk 7 hb_ rfl rfl rfl), BQ.out.alloc _, bthen' HB.out (below_alloc (Below.refl _ w') _), fun h0_ h1_ => Kd.R_below (Q_R1 h0_ h1_) (below_alloc (Below.refl _ w') _), fun h0_ => Kd.R_below (Q_R2 h0_) (below_alloc (Below.refl _ w') _), fun _ _ => Blk.new w' _ _ rfl, fun _ => HB.out.size, fun h0_ => absurd ((hoff 8 (by kernel_rfl)).symm.trans h0_) (by decide), Q_X2_, Q_X3_, Q_X4_, Q_X5_, fun _ => rfl⟩
    refine steps_cons ?_ ?_
    · rintro b a w' ⟨v1, v2, gj, m2_, m3_, m4_, m5_, m7_, ha, Q_BQ, Q_HB, Q_R1, Q_R2, Q_N0, Q_NG, Q_N1, Q_X2_, Q_X3_, Q_X4_, Q_X5_, Q_X7_⟩ hb_ hon hoff
      refine ⟨_, rfl, fun K hK => ?_⟩
      have e8 : a.tmps[8]? = some (m7_) := by rw [ha]; exact putSel_on (e := (7, 8, m7_)) 7 rfl rfl (hon 7 (by kernel_rfl)) rfl
      rw [Q_X7_ (hon 7 (by kernel_rfl))] at e8
      have e70 : a.tmps[70]? = some (m5_) := by rw [ha]; exact putSel_on (e := (5, 70, m5_)) 5 rfl rfl (hon 5 (by kernel_rfl)) rfl
      rw [Q_X5_ (hon 5 (by kernel_rfl))] at e70
      replace ha := Aside0.mk ha
      have BQ := Aside0.mk Q_BQ
      have HB := Aside0.mk Q_HB
      have R2 := Aside0.mk (Q_R2 (hon 3 (by kernel_rfl)))
      have N0 := Aside0.mk (Q_N0 (hon 7 (by kernel_rfl)) hb_)
      have NG := Aside0.mk (Q_NG (hon 7 (by kernel_rfl)))
      obtain ⟨A2, c2, hv2⟩ := Kd.R_slice R2.out
      have hr := store_bm N0.out 1 2 3 2 v2 (by rw [hv2]; rfl)
      refine skip_ (w1 := w'.setCells gj 0 [.int .i64 1, .int .i64 2, .int .i64 3, .int .i64 2, v2]) (by rfl) rfl ?_ ?_
      · exact run_store_op (by rfl) e8 e70 hr.1
      refine hK.out _ _ ⟨v1, v2, gj, m2_, m3_, m4_, m5_, m7_, (by rw [ha.out]; exact putSel_none (v := undef) rfl), far5 BQ.out (Nat.ne_of_lt (Nat.lt_of_lt_of_le QL.out NG.out)) _ _ _ _ _, bset5 HB.out NG.out _ _ _ _ _, fun _ h1_ => absurd ((hon 3 (by kernel_rfl)).symm.trans h1_) (by decide), fun _ => R_five R2.out N0.out (by decide) _ _ _ _ _, fun _ h1_ => absurd ((up_self b 8).symm.trans h1_) (by decide), Q_NG, fun _ => hr.2, Q_X2_, Q_X3_, Q_X4_, Q_X5_, Q_X7_⟩
    refine steps_cons ?_ ?_
    · rintro b a w' ⟨v1, v2, gj, m2_, m3_, m4_, m5_, m7_, ha, Q_BQ, Q_HB, Q_R1, Q_R2, Q_N0, Q_NG, Q_N1, Q_X2_, Q_X3_, Q_X4_, Q_X5_, Q_X7_⟩ hb_ hon hoff
      refine ⟨_, rfl, fun K hK => ?_⟩
      have e71 : a.tmps[71]? = some (.int .i64 0) := by rw [ha]; exact putSel_on (e := (6, 71, .int .i64 0)) 6 rfl rfl (hon 6 (by kernel_rfl)) rfl
      replace ha := Aside0.mk ha
      have BQ := Aside0.mk Q_BQ
      have HB := Aside0.mk Q_HB
      have R2 := Aside0.mk (Q_R2 (hon 3 (by kernel_rfl)))
      have NG := Aside0.mk (Q_NG (hon 7 (by kernel_rfl)))
      have N1 := Aside0.mk (Q_N1 (hon 8 (by kernel_rfl)))
      refine value_ (w1 := w') (v := .int .i64 0) (by rfl) rfl ?_ ?_
      · go_simp
        (try simp only [i64_w])
        try rfl
      refine hK.out _ _ ⟨v1, v2, gj, m2_, m3_, m4_, m5_, m7_, (by rw [ha.out]; exact putSel_upk 8 hb_ rfl rfl rfl), Q_BQ, Q_HB, fun _ h1_ => absurd ((hon 3 (by kernel_rfl)).symm.trans h1_) (by decide), Q_R2, fun _ h1_ => absurd ((hon 8 (by kernel_rfl)).symm.trans h1_) (by decide), Q_NG, Q_N1, Q_X2_, Q_X3_, Q_X4_, Q_X5_, Q_X7_⟩
    exact steps_nil
  · rintro b a w' hall ⟨v1, v2, gj, m2_, m3_, m4_, m5_, m7_, ha, Q_BQ, Q_HB, Q_R1, Q_R2, Q_N0, Q_NG, Q_N1, Q_X2_, Q_X3_, Q_X4_, Q_X5_, Q_X7_⟩
    clear BQ HB
    have hb0_ := hall 0 (by kernel_rfl)
    have hb1_ := hall 1 (by kernel_rfl)
    have hb2_ := hall 2 (by kernel_rfl)
    have hb3_ := hall 3 (by kernel_rfl)
    have hb4_ := hall 4 (by kernel_rfl)
    have hb5_ := hall 5 (by kernel_rfl)
    have hb6_ := hall 6 (by kernel_rfl)
    have hb7_ := hall 7 (by kernel_rfl)
    have hb8_ := hall 8 (by kernel_rfl)
    have hb9_ := hall 9 (by kernel_rfl)
    subst ha
    obtain rfl := Q_X2_ hb2_
    obtain rfl := Q_X3_ hb3_
    obtain rfl := Q_X4_ hb4_
    obtain rfl := Q_X5_ hb5_
    obtain rfl := Q_X7_ hb7_
    simp only [putSel, hb0_, hb1_, hb2_, hb3_, hb4_, hb5_, hb6_, hb7_, hb8_, hb9_, if_true, Act.put, List.setIfInBounds_toArray, List.set_cons_zero, List.set_cons_succ]
    have BQ := Aside0.mk Q_BQ
    clear Q_BQ
    have HB := Aside0.mk Q_HB
    clear Q_HB
    clear Q_R1
    have R2 := Aside0.mk (Q_R2 hb3_)
    clear Q_R2
    clear Q_N0
    have NG := Aside0.mk (Q_NG hb7_)
    clear Q_NG
    have N1 := Aside0.mk (Q_N1 hb8_)
    clear Q_N1
    clear hall hb0_ hb1_ hb2_ hb3_ hb4_ hb5_ hb6_ hb7_ hb8_ hb9_
    obtain ⟨A2, c2, rfl⟩ := Kd.R_slice R2.out
    have CJ := Lib.hid (Kd.R_reads' R2.out).2.2
    have CL := Lib.hid (Kd.R_reads' R2.out).2.1
    have BQ := Lib.hid BQ.out
    have BJ := Lib.hid N1.out
    have HB_0 := HB
    have HB := Lib.hid (bthen' HZ0.out HB.out)
    have CP := Lib.hid (Kd.C_below CP.out HB_0.out)
    clear R2 N1 HZ0 NG HB_0
    obtain ⟨q0, q1, q2, q3, q4⟩ := S5 BQ.out
    go_wp2_with fail
    refine (Hy.scan_Right.calls 1 2 2 1 (some ⟨gp, 0, none⟩) 1 [2] true _ CP.out (by decide) (by rw [Hy.scan_Right.f, if_pos (by decide), ri_b])).mono ?_
    rintro e u1 ⟨rfl, hb⟩
    replace BQ := Lib.hid (BQ.out.below hb)
    replace BJ := Lib.hid (BJ.out.below hb)
    replace CJ := Lib.hid (Kd.C_below CJ.out hb)
    replace CP := Lib.hid (Kd.C_below CP.out hb)
    replace HB := Lib.hid (bthen' HB.out hb)
    clear hb q0 q1 q2 q3 q4
    obtain ⟨q0, q1, q2, q3, q4⟩ := S5 BQ.out
    go_wp2_with fail
    refine (scan_Get.calls 1 2 2 1 (some ⟨gp, 0, none⟩) 1 [2] 2 2 true _ CP.out (by decide) ge_b1).mono ?_
    rintro e u2 ⟨rfl, hb⟩
    replace BQ := Lib.hid (BQ.out.below hb)
    replace BJ := Lib.hid (BJ.out.below hb)
    replace CJ := Lib.hid (Kd.C_below CJ.out hb)
    replace CP := Lib.hid (Kd.C_below CP.out hb)
    replace HB := Lib.hid (bthen' HB.out hb)
    clear hb q0 q1 q2 q3 q4
    obtain ⟨q0, q1, q2, q3, q4⟩ := S5 BQ.out
    go_wp2_with fail
    refine (scan_Get.calls 1 2 2 1 (some ⟨gp, 0, none⟩) 1 [2] 1 2 false _ CP.out (by decide) ge_b2).mono ?_
    rintro e u3 ⟨rfl, hb⟩
    replace BQ := Lib.hid (BQ.out.below hb)
    replace BJ := Lib.hid (BJ.out.below hb)
    replace CJ := Lib.hid (Kd.C_below CJ.out hb)
    replace CP := Lib.hid (Kd.C_below CP.out hb)
    replace HB := Lib.hid (bthen' HB.out hb)
    clear hb q0 q1 q2 q3 q4
    obtain ⟨q0, q1, q2, q3, q4⟩ := S5 BQ.out
    go_wp2_with fail
    refine (trim_any 1 2 2 1 (some ⟨gp, 0, none⟩) 1 [2] u3 (HT.out.below HB.out) CP.out (by decide) (by decide)).mono ?_
    rintro e u4 ⟨vt, rfl, hR, hb⟩
    rw [tr_b] at hR ⊢
    obtain ⟨At, ct, rfl⟩ := Kd.R_slice hR
    have CT := Lib.hid (Kd.R_reads' hR).2.2
    have LT := Lib.hid (Kd.R_reads' hR).2.1
    replace BQ := Lib.hid (BQ.out.below hb)
    replace BJ := Lib.hid (BJ.out.below hb)
    replace CJ := Lib.hid (Kd.C_below CJ.out hb)
    replace CP := Lib.hid (Kd.C_below CP.out hb)
    replace HB := Lib.hid (bthen' HB.out hb)
    clear hb hR q0 q1 q2 q3 q4
    go_wp2_with fail
    obtain ⟨u5, g5, hw, hg, B5, HB5, _⟩ := new_box u4 #[.int .u64 1] 59
    rw [hw, hg]
    replace BQ := Lib.hid (BQ.out.below HB5.out)
    replace BJ := Lib.hid (BJ.out.below HB5.out)
    replace CJ := Lib.hid (Kd.C_below CJ.out HB5.out)
    replace CP := Lib.hid (Kd.C_below CP.out HB5.out)
    replace HB := Lib.hid (bthen' HB.out HB5.out)
    replace CT := Lib.hid (Kd.C_below CT.out HB5.out)
    clear hw hg HB5
    refine (abugidaref11_Same.calls 3 2 2 1 1 At ct [1] 2 2 1 1 (some ⟨g5, 0, none⟩) 1 [1] true u5 CT.out LT.out (C_ints [1] B5.out (by decide)) (by decide) sa_b).mono ?_
    rintro e u6 ⟨rfl, hb⟩
    replace BQ := Lib.hid (BQ.out.below hb)
    replace BJ := Lib.hid (BJ.out.below hb)
    replace CJ := Lib.hid (Kd.C_below CJ.out hb)
    replace CP := Lib.hid (Kd.C_below CP.out hb)
    replace HB := Lib.hid (bthen' HB.out hb)
    clear hb CT LT B5
    obtain ⟨q0, q1, q2, q3, q4⟩ := S5 BQ.out
    obtain ⟨j0, j1, j2, j3, j4⟩ := J5 BJ.out
    go_wp2_with fail
    obtain ⟨u7, g7, hw, hg, B7, HB7, _⟩ := new_box u6 #[.int .u64 2, .int .u64 4] 59
    rw [hw, hg]
    replace BQ := Lib.hid (BQ.out.below HB7.out)
    replace BJ := Lib.hid (BJ.out.below HB7.out)
    replace CJ := Lib.hid (Kd.C_below CJ.out HB7.out)
    replace CP := Lib.hid (Kd.C_below CP.out HB7.out)
    replace HB := Lib.hid (bthen' HB.out HB7.out)
    clear hw hg HB7 q0 q1 q2 q3 q4 j0 j1 j2 j3 j4
    refine (abugidaref11_Same.calls 4 1 2 3 2 A2 c2 [2, 4] 1 2 3 2 (some ⟨g7, 0, none⟩) 2 [2, 4] true u7 CJ.out CL.out (C_ints [2, 4] B7.out (by decide)) (by decide) sa_j).mono ?_
    rintro e u8 ⟨rfl, hb⟩
    replace BQ := Lib.hid (BQ.out.below hb)
    replace BJ := Lib.hid (BJ.out.below hb)
    replace CJ := Lib.hid (Kd.C_below CJ.out hb)
    replace CP := Lib.hid (Kd.C_below CP.out hb)
    replace HB := Lib.hid (bthen' HB.out hb)
    clear hb B7
    obtain ⟨q0, q1, q2, q3, q4⟩ := S5 BQ.out
    go_wp2_with fail
    refine (scan_Same.calls 3 1 2 2 1 (some ⟨gp, 0, none⟩) 1 [2] 1 2 2 1 (some ⟨gp, 0, none⟩) 1 [2] true u8 CP.out (by decide) CP.out (by decide) sc_b).mono ?_
    rintro e u9 ⟨rfl, hb⟩
    replace BQ := Lib.hid (BQ.out.below hb)
    replace BJ := Lib.hid (BJ.out.below hb)
    replace CJ := Lib.hid (Kd.C_below CJ.out hb)
    replace CP := Lib.hid (Kd.C_below CP.out hb)
    replace HB := Lib.hid (bthen' HB.out hb)
    clear hb q0 q1 q2 q3 q4
    go_wp2_with fail
    go_ret
    exact ⟨rfl, HB.out⟩
end Go.Proofs.YtleljodcdbhifaaDoor
/- Functions with contracts of their own, in the print's form; those that reach Trim ask for the table. -/
set_option linter.unusedVariables false
set_option linter.unusedSimpArgs false
namespace Go.Proofs.YtleljodcdbhifaaDoor
open Go.RowKit Go.Proofs.YtleljodcdbhifaaDoorW.PrintWords Go.Proofs.YtleljodcdbhifaaDoorW.PrintLast Go.Proofs.YtleljodcdbhifaaDoorW.PrintMore Hy
def Bm.out (b : Bm) (e : Int) : Int × Int × Int × Int × List Int × Int := (b.L, b.T, b.W, b.H, b.rows, e)
def Hy.scan_Fill.f (l : List (List S30)) : Option (Int × Int × Int × Int × List Int × Int) :=
  if l.length ≤ 1000000 ∧ ∀ c ∈ l, c.length ≤ 1000000 then some ((fillB l).1.L, (fillB l).1.T, (fillB l).1.W, (fillB l).1.H, (fillB l).1.rows, (fillB l).2) else none
theorem Hy.scan_Fill.calls (A0 : Option Addr) (c0 : Nat) (l0 : List (List S30)) (r1 : Int) (r2 : Int) (r3 : Int) (r4 : Int) (r5 : List Int) (r6 : Int) (w : World) (hr0 : Kd.C (Kd.slice 30 k30) w A0 l0.length l0) (hc0 : l0.length ≤ c0) (h : scan_Fill.f l0 = some (r1, r2, r3, r4, r5, r6)) (hT : Tab w) :
    Calls Tryd.prog 16 #[.slice A0 l0.length c0] w fun e w' => ∃ v4_ : Value, e = .returned (.tuple #[.agg #[.int .i64 r1, .int .i64 r2, .int .i64 r3, .int .i64 r4, v4_], .int .i64 r6]) ∧ Kd.R (Kd.int .u64) 59 w' w.heap.size (fun _ => True) v4_ r5 ∧ Below w.heap.size w w' := by
  unfold Hy.scan_Fill.f at h
  split at h
  · rename_i hh
    injection h with h
    injection h with h1 h
    injection h with h2 h
    injection h with h3 h
    injection h with h4 h
    injection h with h5 h6
    subst h1 h2 h3 h4 h5 h6
    exact fill_any A0 c0 l0 w hT hr0 hh.1 hh.2
  · cases h
def Hy.scan_Trim.f (L T W H : Int) (l : List Int) : Option (Int × Int × Int × Int × List Int) :=
  if ∀ r ∈ l, u64 r then some ((trimB ⟨L, T, W, H, l⟩).L, (trimB ⟨L, T, W, H, l⟩).T, (trimB ⟨L, T, W, H, l⟩).W, (trimB ⟨L, T, W, H, l⟩).H, (trimB ⟨L, T, W, H, l⟩).rows) else none
theorem Hy.scan_Trim.calls (L T W H : Int) (A0 : Option Addr) (c0 : Nat) (l0 : List Int) (r1 : Int) (r2 : Int) (r3 : Int) (r4 : Int) (r5 : List Int) (w : World) (hr0 : Kd.C (Kd.int .u64) w A0 l0.length l0) (hc0 : l0.length ≤ c0) (h : scan_Trim.f L T W H l0 = some (r1, r2, r3, r4, r5)) (hT : Tab w) :
    Calls Tryd.prog 21 #[.agg #[.int .i64 L, .int .i64 T, .int .i64 W, .int .i64 H, .slice A0 l0.length c0]] w fun e w' => ∃ v4_ : Value, e = .returned (.agg #[.int .i64 r1, .int .i64 r2, .int .i64 r3, .int .i64 r4, v4_]) ∧ Kd.R (Kd.int .u64) 59 w' w.heap.size (fun _ => True) v4_ r5 ∧ Below w.heap.size w w' := by
  unfold Hy.scan_Trim.f at h
  split at h
  · rename_i hh
    injection h with h
    injection h with h1 h
    injection h with h2 h
    injection h with h3 h
    injection h with h4 h5
    subst h1 h2 h3 h4 h5
    exact trim_any L T W H A0 c0 l0 w hT hr0 hc0 hh
  · cases h
def Hy.scan_Or.f (L T W H : Int) (l : List Int) (L' T' W' H' : Int) (l' : List Int) : Option (Int × Int × Int × Int × List Int × Int) :=
  if (∀ r ∈ l, u64 r) ∧ (∀ r ∈ l', u64 r) then some ((orB ⟨L, T, W, H, l⟩ ⟨L', T', W', H', l'⟩).1.L, (orB ⟨L, T, W, H, l⟩ ⟨L', T', W', H', l'⟩).1.T, (orB ⟨L, T, W, H, l⟩ ⟨L', T', W', H', l'⟩).1.W, (orB ⟨L, T, W, H, l⟩ ⟨L', T', W', H', l'⟩).1.H, (orB ⟨L, T, W, H, l⟩ ⟨L', T', W', H', l'⟩).1.rows, (orB ⟨L, T, W, H, l⟩ ⟨L', T', W', H', l'⟩).2) else none
theorem Hy.scan_Or.calls (L T W H : Int) (A0 : Option Addr) (c0 : Nat) (l0 : List Int) (L' T' W' H' : Int) (A1 : Option Addr) (c1 : Nat) (l1 : List Int) (r1 : Int) (r2 : Int) (r3 : Int) (r4 : Int) (r5 : List Int) (r6 : Int) (w : World) (hr0 : Kd.C (Kd.int .u64) w A0 l0.length l0) (hc0 : l0.length ≤ c0) (hr1 : Kd.C (Kd.int .u64) w A1 l1.length l1) (hc1 : l1.length ≤ c1) (h : scan_Or.f L T W H l0 L' T' W' H' l1 = some (r1, r2, r3, r4, r5, r6)) :
    Calls Tryd.prog 27 #[.agg #[.int .i64 L, .int .i64 T, .int .i64 W, .int .i64 H, .slice A0 l0.length c0], .agg #[.int .i64 L', .int .i64 T', .int .i64 W', .int .i64 H', .slice A1 l1.length c1]] w fun e w' => ∃ v4_ : Value, e = .returned (.tuple #[.agg #[.int .i64 r1, .int .i64 r2, .int .i64 r3, .int .i64 r4, v4_], .int .i64 r6]) ∧ Kd.R (Kd.int .u64) 59 w' w.heap.size (fun _ => True) v4_ r5 ∧ Below w.heap.size w w' := by
  unfold Hy.scan_Or.f at h
  split at h
  · rename_i hh
    injection h with h
    injection h with h1 h
    injection h with h2 h
    injection h with h3 h
    injection h with h4 h
    injection h with h5 h6
    subst h1 h2 h3 h4 h5 h6
    exact or_any ⟨L, T, W, H, l0⟩ ⟨L', T', W', H', l1⟩ A0 A1 c0 c1 w hr0 hc0 hh.1 hr1 hc1 hh.2
  · cases h
def Hy.law_sanity.f : Option Bool := some true
theorem Hy.law_sanity.calls (r : Bool) (w : World) (h : Hy.law_sanity.f = some r) (hT : Tab w) : Calls Tryd.prog 11 #[] w fun e w' => e = .returned (.bool r) ∧ Below w.heap.size w w' := by
  obtain rfl := Option.some.inj h
  exact sanity_any w hT
end Go.Proofs.YtleljodcdbhifaaDoor
/- Sums around a contour; outlines with the same windings have the same bitmap. -/
set_option linter.unusedVariables false
set_option linter.unusedSimpArgs false
namespace Go.Proofs.YtleljodcdbhifaaDoor
open Go.RowKit Go.Proofs.YtleljodcdbhifaaDoorW.PrintWords Go.Proofs.YtleljodcdbhifaaDoorW.PrintLast Go.Proofs.YtleljodcdbhifaaDoorW.PrintMore Hy
/-! finite sums -/
def sumN (f : Nat → Int) : Nat → Int
  | 0 => 0
  | n + 1 => sumN f n + f n
theorem sumN_congr {f g : Nat → Int} : ∀ {n : Nat}, (∀ k, k < n → f k = g k) → sumN f n = sumN g n
  | 0, _ => rfl
  | n + 1, h => by
    rw [sumN, sumN, sumN_congr (fun k hk => h k (Nat.lt_succ_of_lt hk)), h n (Nat.lt_succ_self n)]
theorem sumN_head (f : Nat → Int) : ∀ n, sumN f (n + 1) = f 0 + sumN (fun k => f (k + 1)) n
  | 0 => by simp [sumN]
  | n + 1 => by
    have h := sumN_head f n
    rw [sumN, h, sumN]
    omega
theorem sumN_shift1 {f : Nat → Int} {n : Nat} (h : f n = f 0) : sumN (fun k => f (k + 1)) n = sumN f n := by
  have h1 := sumN_head f n
  rw [sumN] at h1
  omega
theorem sumN_add (f g : Nat → Int) : ∀ n, sumN (fun k => f k + g k) n = sumN f n + sumN g n
  | 0 => rfl
  | n + 1 => by rw [sumN, sumN, sumN, sumN_add f g n]; omega
theorem sumN_zero {f : Nat → Int} {n : Nat} (h : ∀ k, k < n → f k = 0) : sumN f n = 0 := by
  rw [sumN_congr (g := fun _ => 0) h]
  induction n with
  | zero => rfl
  | succ n ih => rw [sumN, ih (fun k hk => h k (Nat.lt_succ_of_lt hk))]; rfl
theorem sumN_tele {f g : Nat → Int} {n : Nat} (h : ∀ k, k < n → f k = g k - g (k + 1)) : sumN f n = g 0 - g n := by
  induction n with
  | zero => simp [sumN]
  | succ n ih =>
    rw [sumN, ih (fun k hk => h k (Nat.lt_succ_of_lt hk)), h n (Nat.lt_succ_self n)]
    omega
/-! what a contour counts -/
/-- the line from a point to the next -/
def Lf (x y : Int) (p n : S30) : Int := if p.f2 && n.f2 then cntL (2 * p.f0) (2 * p.f1) (2 * n.f0) (2 * n.f1) (2 * x) (2 * y) else 0
/-- where the curve of a point begins or ends, that has a neighbour -/
def Ex (b p : S30) : Int := if b.f2 then 2 * b.f0 else b.f0 + p.f0
def Ey (b p : S30) : Int := if b.f2 then 2 * b.f1 else b.f1 + p.f1
/-- the curve of a point -/
def Cf (x y : Int) (b p n : S30) : Int := if p.f2 then 0 else cntC (Ex b p) (Ey b p) (2 * p.f0) (2 * p.f1) (Ex n p) (Ey n p) (2 * x) (2 * y)
theorem wind_piece (b p n : S30) (x y : Int) : wind (pieceOf b p n) x y = Lf x y p n + Cf x y b p n := by
  obtain ⟨p0, p1, p2⟩ := p
  obtain ⟨n0, n1, n2⟩ := n
  obtain ⟨b0, b1, b2⟩ := b
  unfold pieceOf Lf Cf
  cases p2
  · simp only [Bool.false_eq_true, if_false, Bool.false_and, wind_cons, wind_nil, cntP, cnt, if_true, Ex, Ey, Int.add_comm p0 n0, Int.add_comm p1 n1]
    omega
  · cases n2
    · simp [wind_nil]
    · simp [wind_cons, wind_nil, cntP, cnt]
theorem ptAt_add (c : List S30) (k : Nat) : ptAt c (k + c.length) = ptAt c k := by unfold ptAt; rw [Nat.add_mod_right]
theorem ptAt_lt (c : List S30) {k : Nat} (h : k < c.length) : ptAt c k = c.getD k z30 := by unfold ptAt; rw [Nat.mod_eq_of_lt h]
theorem wind_pcs (c : List S30) (x y : Int) : ∀ k, wind (pcs c k) x y = sumN (fun k => wind (pieceAt c k) x y) k
  | 0 => rfl
  | k + 1 => by rw [pcs_succ, wind_append, wind_pcs c x y k, sumN]
/-- the winding of a contour: its lines, and its curves -/
def wcon (c : List S30) (x y : Int) : Int := sumN (fun k => Lf x y (ptAt c k) (ptAt c (k + 1))) c.length + sumN (fun k => Cf x y (ptAt c (k + c.length - 1)) (ptAt c k) (ptAt c (k + 1))) c.length
theorem wind_con (c : List S30) (x y : Int) : wind (pcs c c.length) x y = wcon c x y := by
  unfold wcon
  rw [wind_pcs, ← sumN_add]
  exact sumN_congr fun k hk => by
    unfold pieceAt
    rw [wind_piece, ← ptAt_lt c hk]
theorem wind_all (l : List (List S30)) (x y : Int) : wind (allP l) x y = (l.map fun c => wcon c x y).sum := by
  induction l with
  | nil => rfl
  | cons c l ih =>
    have e : allP (c :: l) = pcs c c.length ++ allP l := by simp [allP]
    rw [e, wind_append, wind_con, ih, List.map_cons, List.sum_cons]
/-! equal bitmaps -/
/-- each point has one that is not greater, and one that is not less, in both coordinates -/
def Cov (P P' : List S30) : Prop := ∀ p ∈ P, (∃ q ∈ P', q.f0 ≤ p.f0) ∧ (∃ q ∈ P', p.f0 ≤ q.f0) ∧ (∃ q ∈ P', q.f1 ≤ p.f1) ∧ (∃ q ∈ P', p.f1 ≤ q.f1)
theorem minF_le : ∀ (l : List Int) (a : Int), minF a l ≤ a ∧ ∀ x ∈ l, minF a l ≤ x
  | [], a => ⟨Int.le_refl _, fun x hx => by cases hx⟩
  | y :: l, a => by
    obtain ⟨h1, h2⟩ := minF_le l (min a y)
    have e : minF a (y :: l) = minF (min a y) l := rfl
    rw [e]
    refine ⟨by omega, fun x hx => ?_⟩
    rcases List.mem_cons.1 hx with rfl | hx
    · omega
    · exact h2 x hx
theorem minF_in : ∀ (l : List Int) (a : Int), minF a l = a ∨ minF a l ∈ l
  | [], a => .inl rfl
  | y :: l, a => by
    have e : minF a (y :: l) = minF (min a y) l := rfl
    rw [e]
    rcases minF_in l (min a y) with h | h
    · rw [h]
      rcases Int.le_total a y with h1 | h1
      · left; omega
      · right; rw [show min a y = y by omega]; exact List.mem_cons_self
    · exact .inr (List.mem_cons_of_mem _ h)
theorem maxF_le : ∀ (l : List Int) (a : Int), a ≤ maxF a l ∧ ∀ x ∈ l, x ≤ maxF a l
  | [], a => ⟨Int.le_refl _, fun x hx => by cases hx⟩
  | y :: l, a => by
    obtain ⟨h1, h2⟩ := maxF_le l (max a y)
    have e : maxF a (y :: l) = maxF (max a y) l := rfl
    rw [e]
    refine ⟨by omega, fun x hx => ?_⟩
    rcases List.mem_cons.1 hx with rfl | hx
    · omega
    · exact h2 x hx
theorem maxF_in : ∀ (l : List Int) (a : Int), maxF a l = a ∨ maxF a l ∈ l
  | [], a => .inl rfl
  | y :: l, a => by
    have e : maxF a (y :: l) = maxF (max a y) l := rfl
    rw [e]
    rcases maxF_in l (max a y) with h | h
    · rw [h]
      rcases Int.le_total a y with h1 | h1
      · right; rw [show max a y = y by omega]; exact List.mem_cons_self
      · left; omega
    · exact .inr (List.mem_cons_of_mem _ h)
theorem minF_dom {l l' : List Int} {a : Int} (h : ∀ x ∈ l, ∃ y ∈ l', y ≤ x) : minF a l' ≤ minF a l := by
  obtain ⟨h1, h2⟩ := minF_le l' a
  rcases minF_in l a with e | e
  · omega
  · obtain ⟨y, hy, hle⟩ := h _ e
    have := h2 y hy
    omega
theorem maxF_dom {l l' : List Int} {a : Int} (h : ∀ x ∈ l, ∃ y ∈ l', x ≤ y) : maxF a l ≤ maxF a l' := by
  obtain ⟨h1, h2⟩ := maxF_le l' a
  rcases maxF_in l a with e | e
  · omega
  · obtain ⟨y, hy, hle⟩ := h _ e
    have := h2 y hy
    omega
theorem dom_map {P P' : List S30} {f : S30 → Int} {R : Int → Int → Prop} (h : ∀ p ∈ P, ∃ q ∈ P', R (f q) (f p)) : ∀ x ∈ P.map f, ∃ y ∈ P'.map f, R y x := by
  intro x hx
  obtain ⟨p, hp, rfl⟩ := List.mem_map.1 hx
  obtain ⟨q, hq, hr⟩ := h p hp
  exact ⟨f q, List.mem_map.2 ⟨q, hq, rfl⟩, hr⟩
theorem Cov.box {P P' : List S30} (h : Cov P P') (h' : Cov P' P) : X0 P = X0 P' ∧ X1 P = X1 P' ∧ Y0 P = Y0 P' ∧ Y1 P = Y1 P' := by
  have a1 := minF_dom (a := 4096) (dom_map (f := (·.f0)) (R := fun y x => y ≤ x) fun p hp => (h p hp).1)
  have a2 := maxF_dom (a := -4096) (dom_map (f := (·.f0)) (R := fun y x => x ≤ y) fun p hp => (h p hp).2.1)
  have a3 := minF_dom (a := 4096) (dom_map (f := (·.f1)) (R := fun y x => y ≤ x) fun p hp => (h p hp).2.2.1)
  have a4 := maxF_dom (a := -4096) (dom_map (f := (·.f1)) (R := fun y x => x ≤ y) fun p hp => (h p hp).2.2.2)
  have b1 := minF_dom (a := 4096) (dom_map (f := (·.f0)) (R := fun y x => y ≤ x) fun p hp => (h' p hp).1)
  have b2 := maxF_dom (a := -4096) (dom_map (f := (·.f0)) (R := fun y x => x ≤ y) fun p hp => (h' p hp).2.1)
  have b3 := minF_dom (a := 4096) (dom_map (f := (·.f1)) (R := fun y x => y ≤ x) fun p hp => (h' p hp).2.2.1)
  have b4 := maxF_dom (a := -4096) (dom_map (f := (·.f1)) (R := fun y x => x ≤ y) fun p hp => (h' p hp).2.2.2)
  unfold X0 X1 Y0 Y1
  refine ⟨?_, ?_, ?_, ?_⟩ <;> congr 1 <;> omega
theorem Cov.empty {P P' : List S30} (h : Cov P P') (h0 : P' = []) : P = [] := by
  subst h0
  cases P with
  | nil => rfl
  | cons p P =>
    obtain ⟨⟨q, hq, _⟩, _⟩ := h p List.mem_cons_self
    cases hq
theorem Cov.near {P P' : List S30} (h : Cov P P') (hn : ∀ p ∈ P', nearP p) : ∀ p ∈ P, nearP p := by
  intro p hp
  obtain ⟨⟨q1, m1, e1⟩, ⟨q2, m2, e2⟩, ⟨q3, m3, e3⟩, ⟨q4, m4, e4⟩⟩ := h p hp
  have n1 := hn q1 m1
  have n2 := hn q2 m2
  have n3 := hn q3 m3
  have n4 := hn q4 m4
  unfold nearP near12 at *
  omega
/-- the points of a contour lie within a span -/
theorem pts_mem {l : List (List S30)} {p : S30} : p ∈ ptsOf l ↔ ∃ c ∈ l, p ∈ c := by unfold ptsOf; exact List.mem_flatten
theorem ptAt_mem {c : List S30} (k : Nat) (h : 0 < c.length) : ptAt c k ∈ c := by
  unfold ptAt
  have hk := Nat.mod_lt k h
  rw [List.getD_eq_getElem?_getD, List.getElem?_eq_getElem hk]
  exact List.getElem_mem hk
end Go.Proofs.YtleljodcdbhifaaDoor
/- The outlines that numbers make are small; the comparison of bitmaps, for all numbers of rounds. -/
set_option linter.unusedVariables false
set_option linter.unusedSimpArgs false
namespace Go.Proofs.YtleljodcdbhifaaDoor
open Go.RowKit Go.Proofs.YtleljodcdbhifaaDoorW.PrintWords Go.Proofs.YtleljodcdbhifaaDoorW.PrintLast Go.Proofs.YtleljodcdbhifaaDoorW.PrintMore Hy
def Pt (p : S30) : Prop := (-999 ≤ p.f0 ∧ p.f0 ≤ 999) ∧ (-999 ≤ p.f1 ∧ p.f1 ≤ 999)
def GoodC (c : List S30) : Prop := c.length ≤ 7 ∧ ∀ p ∈ c, Pt p
def Good (m : List (List S30)) : Prop := m.length ≤ 3 ∧ ∀ c ∈ m, GoodC c
theorem part_f (n : Int) : ∃ v, abugidaref11_part.f n = some v ∧ -999 ≤ v ∧ v ≤ 999 := by
  have h1 : -999 ≤ Int.tmod n 1000 ∧ Int.tmod n 1000 ≤ 999 := by
    have := Int.tmod_lt_of_pos n (show (0 : Int) < 1000 by decide)
    have h := Int.tmod_lt_of_pos (-n) (show (0 : Int) < 1000 by decide)
    rw [Int.neg_tmod] at h
    omega
  unfold abugidaref11_part.f
  split
  · exact ⟨_, rfl, h1⟩
  · generalize Int.tmod n 1000 = t at *
    have h2 : -31 ≤ Int.tdiv t 32 ∧ Int.tdiv t 32 ≤ 31 := by
      rcases Int.le_total 0 t with h | h
      · rw [Int.tdiv_eq_ediv_of_nonneg h]; omega
      · have e : Int.tdiv t 32 = - Int.tdiv (-t) 32 := by rw [Int.neg_tdiv]; omega
        rw [e, Int.tdiv_eq_ediv_of_nonneg (show 0 ≤ -t by omega)]; omega
    refine ⟨_, rfl, ?_⟩
    rw [w64 (n := Int.tdiv t 32) (by omega), w64 (by omega)]
    omega
theorem made_in (x0 : List (List Int)) (x3 : List (List S30)) (i : Nat) (hi : i < x0.length) (B : Nat) (hx3 : x3.length ≤ 2)
    (hout : ∀ c, GoodC c → ∃ m, Good m ∧ ∀ k, B ≤ k → abugidaref11_Made.l0 k x0 (x3 ++ [c]) (wrap64 ((i : Int) + 1)) = some m) (d : Nat) : ∀ (j : Nat) (x5 : List S30), j + d = 7 → x5.length = j → (∀ p ∈ x5, Pt p) →
    ∃ m, Good m ∧ ∀ k, B + 2 + 2 * d ≤ k → abugidaref11_Made.l1 k x0 x3 (i : Int) x5 ((2 * j : Nat) : Int) = some m := by
  induction d with
  | zero =>
    intro j x5 hj hl hp
    obtain ⟨m, hm, hk⟩ := hout x5 ⟨by omega, hp⟩
    refine ⟨m, hm, fun k hB => ?_⟩
    obtain ⟨k, rfl⟩ : ∃ q, k = q + 2 := ⟨k - 2, by omega⟩
    rw [abugidaref11_Made.l1, if_pos (by omega), if_pos (by omega)]
    have e : decide (((2 * j : Nat) : Int) < 14) = false := by simp; omega
    have hj3 : abugidaref11_Made.j3 (k + 1) x0 x3 (i : Int) x5 ((2 * j : Nat) : Int) false = some m := by
      rw [abugidaref11_Made.j3, if_neg (by decide), if_pos (by omega)]
      exact hk k (by omega)
    rw [e]
    split <;> exact hj3
  | succ d ih =>
    intro j x5 hj hl hp
    by_cases hl2 : (2 * j + 1 : Int) < ((rd_L10 x0 (i : Int)).length : Int)
    · obtain ⟨v1, e1, b1⟩ := part_f (rd (rd_L10 x0 (i : Int)) ((2 * j : Nat) : Int))
      obtain ⟨v2, e2, b2⟩ := part_f (rd (rd_L10 x0 (i : Int)) (2 * j + 1))
      obtain ⟨f, hf⟩ : ∃ f : Bool, f = (Int.tmod (wrap64 ((rd (rd_L10 x0 (i : Int)) ((2 * j : Nat) : Int)) + (wrap64 (Int.tdiv (rd (rd_L10 x0 (i : Int)) (2 * j + 1)) 7)))) 3 != 0) := ⟨_, rfl⟩
      obtain ⟨m, hm, hk⟩ := ih (j + 1) (x5 ++ [⟨v1, v2, f⟩]) (by omega) (by simp; omega) (by
        intro p hpm
        rcases List.mem_append.1 hpm with h | h
        · exact hp p h
        · rw [List.mem_singleton] at h
          subst h
          exact ⟨b1, b2⟩)
      refine ⟨m, hm, fun k hB => ?_⟩
      obtain ⟨k, rfl⟩ : ∃ q, k = q + 2 := ⟨k - 2, by omega⟩
      have ew : wrap64 (((2 * j : Nat) : Int) + 1) = 2 * j + 1 := by rw [w64 (by omega)]; omega
      have ew2 : wrap64 (((2 * j : Nat) : Int) + 2) = ((2 * (j + 1) : Nat) : Int) := by rw [w64 (by omega)]; omega
      have ed : decide (((2 * j : Nat) : Int) < 14) = true := by simp; omega
      rw [abugidaref11_Made.l1, if_pos (by omega), if_pos (by omega), ew, if_pos hl2, ed, abugidaref11_Made.j3, if_pos rfl, if_pos (by omega), if_pos (by omega), if_pos (by omega), if_pos (by omega), e1, Option.bind_some, ew, if_pos (by omega), if_pos hl2, e2, Option.bind_some, if_pos (by omega), ew2, ← hf]
      exact hk k (by omega)
    · obtain ⟨m, hm, hk⟩ := hout x5 ⟨by omega, hp⟩
      refine ⟨m, hm, fun k hB => ?_⟩
      obtain ⟨k, rfl⟩ : ∃ q, k = q + 2 := ⟨k - 2, by omega⟩
      have ew : wrap64 (((2 * j : Nat) : Int) + 1) = 2 * j + 1 := by rw [w64 (by omega)]; omega
      rw [abugidaref11_Made.l1, if_pos (by omega), if_pos (by omega), ew, if_neg hl2, abugidaref11_Made.j3, if_neg (by decide), if_pos (by omega)]
      exact hk k (by omega)
theorem made_out (x0 : List (List Int)) (d : Nat) : ∀ (i : Nat) (x3 : List (List S30)), i + d = 3 → x3.length = i → (∀ c ∈ x3, GoodC c) →
    ∃ m, Good m ∧ ∀ k, 3 + 20 * d ≤ k → abugidaref11_Made.l0 k x0 x3 (i : Int) = some m := by
  induction d with
  | zero =>
    intro i x3 hi hl hc
    refine ⟨x3, ⟨by omega, hc⟩, fun k hk => ?_⟩
    obtain ⟨k, rfl⟩ : ∃ q, k = q + 2 := ⟨k - 2, by omega⟩
    have e : decide ((i : Int) < 3) = false := by simp; omega
    rw [abugidaref11_Made.l0, e]
    split <;> rw [abugidaref11_Made.j1, if_neg (by decide)]
  | succ d ih =>
    intro i x3 hi hl hc
    by_cases h : (i : Int) < (x0.length : Int)
    · obtain ⟨m, hm, hk⟩ := made_in x0 x3 i (by omega) (3 + 20 * d) (by omega) (fun c hcg => by
        have h2 := ih (i + 1) (x3 ++ [c]) (by omega) (by simp; omega) (by
          intro c' hc'
          rcases List.mem_append.1 hc' with h | h
          · exact hc c' h
          · rw [List.mem_singleton] at h
            subst h
            exact hcg)
        rw [show wrap64 ((i : Int) + 1) = ((i + 1 : Nat) : Int) by rw [w64 (by omega)]; omega]
        exact h2) 7 0 [] rfl rfl (by intro p hp; cases hp)
      refine ⟨m, hm, fun k hB => ?_⟩
      obtain ⟨k, rfl⟩ : ∃ q, k = q + 2 := ⟨k - 2, by omega⟩
      have e : decide ((i : Int) < 3) = true := by simp; omega
      rw [abugidaref11_Made.l0, if_pos h, e, abugidaref11_Made.j1, if_pos rfl]
      exact hk k (by omega)
    · refine ⟨x3, ⟨by omega, hc⟩, fun k hk => ?_⟩
      obtain ⟨k, rfl⟩ : ∃ q, k = q + 2 := ⟨k - 2, by omega⟩
      rw [abugidaref11_Made.l0, if_neg h, abugidaref11_Made.j1, if_neg (by decide)]
theorem made_f (x0 : List (List Int)) : ∃ m, Good m ∧ ∀ k, 100 ≤ k → abugidaref11_Made.f k x0 = some m := by
  obtain ⟨m, hm, hk⟩ := made_out x0 3 0 [] rfl rfl (by intro c hc; cases hc)
  exact ⟨m, hm, fun k h => hk k (by omega)⟩
theorem sameB_refl (a : Bm) : sameB a a = true := by unfold sameB; simp
end Go.Proofs.YtleljodcdbhifaaDoor
/- The pixels of bitmaps: of trimmed ones, of those of outlines. -/
set_option linter.unusedVariables false
set_option linter.unusedSimpArgs false
namespace Go.Proofs.YtleljodcdbhifaaDoor
open Go.RowKit Go.Proofs.YtleljodcdbhifaaDoorW.PrintWords Go.Proofs.YtleljodcdbhifaaDoorW.PrintLast Go.Proofs.YtleljodcdbhifaaDoorW.PrintMore Hy
theorem orN_bit (l : List Int) (i : Nat) : (orN l).testBit i = true ↔ ∃ r ∈ l, r.toNat.testBit i = true := by
  induction l with
  | nil => simp [orN]
  | cons r rs ih =>
    unfold orN
    rw [Nat.testBit_or, Bool.or_eq_true, ih]
    simp
theorem ctz_facts {x : Nat} (h0 : x ≠ 0) (h : x < 18446744073709551616) : (∀ i, i < Lib.ctz 64 x → x.testBit i = false) ∧ x.testBit (Lib.ctz 64 x) = true ∧ Lib.ctz 64 x < 64 := by
  have e : Lib.ctz 64 x = Lib.ctzFrom 64 x := by unfold Lib.ctz; rw [if_neg h0]
  obtain ⟨m, hm, hl⟩ := Lib.ctzFrom_spec 64 x (by omega) (by omega)
  rw [e]
  generalize Lib.ctzFrom 64 x = z at *
  clear e
  subst hm
  refine ⟨fun i hi => ?_, ?_, hl⟩
  · rw [Nat.testBit_two_pow_mul, decide_eq_false (by omega)]; rfl
  · rw [Nat.testBit_two_pow_mul, decide_eq_true (by omega), Nat.sub_self, Bool.true_and, Nat.testBit_zero]
    simp
theorem used_ne {b : Bm} (h : usedOf b ≠ 0) : rightB b.L b.T b.W b.H b.rows = true ∧ orN b.rows ≠ 0 := by
  unfold usedOf at h
  split at h
  · rename_i hr; exact ⟨hr, h⟩
  · exact absurd rfl h
theorem getD_mem {l : List Int} {k : Nat} (h : k < l.length) : l.getD k 0 ∈ l := by
  rw [List.getD_eq_getElem?_getD, List.getElem?_eq_getElem h]
  exact List.getElem_mem h
theorem mem_getD {l : List Int} {r : Int} (h : r ∈ l) : ∃ k, k < l.length ∧ l.getD k 0 = r := by
  obtain ⟨k, hk, rfl⟩ := List.mem_iff_getElem.1 h
  exact ⟨k, hk, by rw [List.getD_eq_getElem?_getD, List.getElem?_eq_getElem hk]; rfl⟩
theorem or_lt {l : List Int} {W : Nat} (h : ∀ r ∈ l, r.toNat < 2 ^ W) : orN l < 2 ^ W := by
  induction l with
  | nil => exact Nat.two_pow_pos W
  | cons r rs ih => exact Nat.or_lt_two_pow (h r List.mem_cons_self) (ih fun x hx => h x (List.mem_cons_of_mem _ hx))
/-- what trimming does, for a right bitmap that isn't empty -/
structure Tr (b : Bm) where
  z : Nat
  f : Nat
  e : Nat
  n : Nat
  ez : z = Lib.ctz 64 (orN b.rows)
  ef : f = firstNz b.rows
  ee : e = lastNz b.rows
  en : n = Lib.bitLen (orN b.rows)
  ok : okB b.L b.T b.W b.H b.rows = true
  u : orN b.rows ≠ 0
  lt : orN b.rows < 18446744073709551616
  zn : z < n
  nW : (n : Int) ≤ b.W
  fe : f ≤ e
  el : e < b.rows.length
  lo : ∀ i, i < z → (orN b.rows).testBit i = false
  at_z : (orN b.rows).testBit z = true
  hi : orN b.rows < 2 ^ n
  top : 2 ^ (n - 1) ≤ orN b.rows
  fnz : (b.rows.getD f 0).toNat ≠ 0
  enz : (b.rows.getD e 0).toNat ≠ 0
  bef : ∀ i, i < f → (b.rows.getD i 0).toNat = 0
  aft : ∀ i, e < i → (b.rows.getD i 0).toNat = 0
theorem tr_of {b : Bm} (hu : Words b.rows) (h : usedOf b ≠ 0) : Nonempty (Tr b) := by
  obtain ⟨hr, h0⟩ := used_ne h
  have hlt := orN_lt b.rows hu
  have hok : okB b.L b.T b.W b.H b.rows = true := by
    unfold rightB at hr
    rw [Bool.or_eq_true] at hr
    rcases hr with hr | hr
    · unfold zeroB at hr
      have := of_decide_eq_true hr
      have e : b.rows = [] := List.length_eq_zero_iff.1 this.2.2.2.2
      rw [e] at h0
      exact absurd rfl h0
    · exact hr
  obtain ⟨c1, c2, c3⟩ := ctz_facts h0 hlt
  obtain ⟨l1, l2, l3⟩ := last_spec b.rows h0
  obtain ⟨f1, f2, f3, f4⟩ := first_spec b.rows hu h0
  have hrow := ok_row hok hu
  have hhi := lt_two_bitLen (orN b.rows) hlt
  have hzn : Lib.ctz 64 (orN b.rows) < Lib.bitLen (orN b.rows) := by
    refine lt_bitLen hlt ?_
    exact Nat.ge_two_pow_of_testBit c2
  have hnW := (bitLen_le_iff hlt).2 (or_lt hrow)
  obtain ⟨w1, _⟩ := ok_facts hok
  refine ⟨⟨_, _, _, _, rfl, rfl, rfl, rfl, hok, h0, hlt, hzn, by omega, f2, l1, c1, c2, hhi, ?_, f3, l2, f4, l3⟩⟩
  rcases Nat.lt_or_ge (orN b.rows) (2 ^ (Lib.bitLen (orN b.rows) - 1)) with h1 | h1
  · have := (bitLen_le_iff hlt).2 h1
    omega
  · exact h1
theorem tr_eq {b : Bm} (h : usedOf b ≠ 0) (t : Tr b) : trimB b = ⟨b.L + t.z, b.T + t.f, t.n - t.z, t.e - t.f + 1, cutRows b.rows⟩ := by
  unfold trimB
  rw [if_neg h, t.ez, t.ef, t.ee, t.en]
theorem cut_len {b : Bm} (t : Tr b) : (cutRows b.rows).length = t.e + 1 - t.f := by
  have h1 := t.el
  have h2 := t.fe
  unfold cutRows
  rw [List.length_map, List.length_take, List.length_drop, ← t.ee, ← t.ef]
  omega
theorem row_bit {l : List Int} {k i : Nat} (h : (orN l).testBit i = false) : (l.getD k 0).toNat.testBit i = false := by
  rcases Nat.lt_or_ge k l.length with hk | hk
  · cases hb : (l.getD k 0).toNat.testBit i with
    | false => rfl
    | true => rw [(orN_bit l i).2 ⟨_, getD_mem hk, hb⟩] at h; cases h
  · rw [List.getD_eq_getElem?_getD, List.getElem?_eq_none hk]; simp
theorem okB_mk {L T W H : Int} {l : List Int} (h1 : 1 ≤ W ∧ W ≤ 64) (h2 : 1 ≤ H ∧ H ≤ 64) (h3 : (l.length : Int) = H) (h4 : -10000 ≤ L ∧ L ≤ 10001 - W) (h5 : -10000 ≤ T ∧ T ≤ 10001 - H) (hu : Words l) (h6 : ∀ r ∈ l, r.toNat < 2 ^ W.toNat) : okB L T W H l = true := by
  unfold okB
  rw [decide_eq_true ⟨h1, h2, h3, h4, h5⟩, Bool.true_and, Bool.not_eq_true', List.any_eq_false]
  intro r hr
  unfold fitB
  have hb := (bitLen_le_iff (x := r.toNat) (k := W.toNat) (by have := hu r hr; unfold u64 at this; omega)).2 (h6 r hr)
  simp
  omega
/-! what is outside of the box counts nothing -/
theorem wcon_left (c : List S30) (x y : Int) (h : ∀ p ∈ c, x < p.f0) : wcon c x y = 0 := by
  unfold wcon
  rcases Nat.eq_zero_or_pos c.length with h0 | h0
  · rw [h0]; rfl
  have hk : ∀ k, x < (ptAt c k).f0 := fun k => h _ (ptAt_mem k h0)
  rw [sumN_zero fun k _ => ?_, sumN_zero fun k _ => ?_]
  · rfl
  · have a := hk k
    have b := hk (k + 1)
    have d := hk (k + c.length - 1)
    unfold Cf
    split
    · rfl
    · refine cntC_left ?_ (by omega) ?_ <;> (unfold Ex; split <;> omega)
  · have a := hk k
    have b := hk (k + 1)
    unfold Lf
    split
    · exact cntL_left (by omega) (by omega)
    · rfl
theorem wcon_off (c : List S30) (x y : Int) (h : (∀ p ∈ c, y < p.f1) ∨ ∀ p ∈ c, p.f1 < y) : wcon c x y = 0 := by
  unfold wcon
  rcases Nat.eq_zero_or_pos c.length with h0 | h0
  · rw [h0]; rfl
  have hk : (∀ k, y < (ptAt c k).f1) ∨ ∀ k, (ptAt c k).f1 < y := by
    rcases h with h | h
    · exact .inl fun k => h _ (ptAt_mem k h0)
    · exact .inr fun k => h _ (ptAt_mem k h0)
  rw [sumN_zero fun k _ => ?_, sumN_zero fun k _ => ?_]
  · rfl
  · unfold Cf
    split
    · rfl
    · refine cntC_off ?_
      rcases hk with hk | hk
      · left
        have a := hk k
        have b := hk (k + 1)
        have d := hk (k + c.length - 1)
        refine ⟨?_, by omega, ?_⟩ <;> (unfold Ey; split <;> omega)
      · right
        have a := hk k
        have b := hk (k + 1)
        have d := hk (k + c.length - 1)
        refine ⟨?_, by omega, ?_⟩ <;> (unfold Ey; split <;> omega)
  · unfold Lf
    split
    · refine cntL_off ?_
      rcases hk with hk | hk
      · have a := hk k
        have b := hk (k + 1)
        left; omega
      · have a := hk k
        have b := hk (k + 1)
        right; omega
    · rfl
/-- where the part of a point begins -/
def En (b p : S30) : Int := if p.f2 then 2 * p.f1 else Ey b p
theorem part_right (b p n : S30) (x y : Int) (hb : b.f0 ≤ x) (hp : p.f0 ≤ x) (hn : n.f0 ≤ x) : Lf x y p n + Cf x y b p n = Hs (En b p) (2 * y) - Hs (En p n) (2 * y) := by
  unfold Lf Cf En
  cases hp2 : p.f2
  · simp only [Bool.false_and, Bool.false_eq_true, if_false, Int.zero_add]
    rw [cntC_right (by unfold Ex; split <;> omega) (by omega) (by unfold Ex; split <;> omega)]
    congr 2
    cases hn2 : n.f2
    · simp [Ey, hn2, hp2]; omega
    · simp [Ey, hn2]
  · cases hn2 : n.f2
    · simp [Ey, hp2]
    · simp only [Bool.and_true, if_true, Int.add_zero]
      exact cntL_right (by omega) (by omega)
theorem wcon_right (c : List S30) (x y : Int) (h : ∀ p ∈ c, p.f0 ≤ x) : wcon c x y = 0 := by
  unfold wcon
  rcases Nat.eq_zero_or_pos c.length with h0 | h0
  · rw [h0]; rfl
  have hk : ∀ k, (ptAt c k).f0 ≤ x := fun k => h _ (ptAt_mem k h0)
  rw [← sumN_add, sumN_tele (g := fun k => Hs (En (ptAt c (k + c.length - 1)) (ptAt c k)) (2 * y)) fun k _ => ?_]
  · rw [show c.length + c.length - 1 = 0 + c.length - 1 + c.length by omega, ptAt_add, show ptAt c c.length = ptAt c (0 + c.length) by rw [Nat.zero_add], ptAt_add]
    omega
  · rw [part_right _ _ _ _ _ (hk _) (hk _) (hk _), show k + 1 + c.length - 1 = k + c.length by omega, ptAt_add]
theorem sum_zero {l : List (List S30)} {f : List S30 → Int} (h : ∀ c ∈ l, f c = 0) : (l.map f).sum = 0 := by
  induction l with
  | nil => rfl
  | cons a l ih => rw [List.map_cons, List.sum_cons, h a List.mem_cons_self, ih fun c hc => h c (List.mem_cons_of_mem _ hc)]; rfl
theorem wind_out (l : List (List S30)) (x y : Int) (h : (∀ p ∈ ptsOf l, x < p.f0) ∨ (∀ p ∈ ptsOf l, p.f0 ≤ x) ∨ (∀ p ∈ ptsOf l, y < p.f1) ∨ ∀ p ∈ ptsOf l, p.f1 < y) : wind (allP l) x y = 0 := by
  rw [wind_all]
  refine sum_zero fun c hc => ?_
  have hm : ∀ p ∈ c, p ∈ ptsOf l := fun p hp => pts_mem.2 ⟨c, hc, hp⟩
  rcases h with h | h | h | h
  · exact wcon_left c x y fun p hp => h p (hm p hp)
  · exact wcon_right c x y fun p hp => h p (hm p hp)
  · exact wcon_off c x y (.inl fun p hp => h p (hm p hp))
  · exact wcon_off c x y (.inr fun p hp => h p (hm p hp))
/-! the pixels of an outline -/
theorem rowsN_getD (ps : List S84) (x0 y0 : Int) (w h k : Nat) (hk : k < h) : (rowsN ps x0 y0 w h).getD k 0 = ((rowN ps x0 (y0 + k) w : Nat) : Int) := by
  rw [List.getD_eq_getElem?_getD, List.getElem?_eq_getElem (by simp [rowsN]; exact hk)]
  simp [rowsN]
structure Box (l : List (List S30)) : Prop where
  near : nearL l = true
  some_ : ptsOf l ≠ []
  wide : X1 (ptsOf l) - X0 (ptsOf l) ≤ 63
  high : Y1 (ptsOf l) - Y0 (ptsOf l) ≤ 63
theorem fill_box {l : List (List S30)} (B : Box l) : fillB l = (trimB (rawB l), 0) := by
  have h1 := B.wide
  have h2 := B.high
  unfold fillB
  rw [B.near, if_neg (by decide), if_neg B.some_, if_neg (by omega)]
end Go.Proofs.YtleljodcdbhifaaDoor
/- Arguments that are read: what their values look like. -/
set_option linter.unusedVariables false
set_option linter.unusedSimpArgs false
namespace Go.Proofs.YtleljodcdbhifaaDoor
open Go.ChangeShapes Go.WideShapes Go.ChangeAt Go.RowKit Go.Joins
section
variable {H : Type} {enc : TypeId × Value → H} {P : Program} {w : World} {base : Nat} {spare : Nat → Bool} {held : Bool} {fuel : Nat} {t e : TypeId} {cs : List Value} {x : DataW H × List MemPlace}
end
end Go.Proofs.YtleljodcdbhifaaDoor
/- Arguments that are read: rows of rows; the table that the program lays. -/
set_option linter.unusedVariables false
set_option linter.unusedSimpArgs false
namespace Go.Proofs.YtleljodcdbhifaaDoor
open Go.ChangeShapes Go.WideShapes Go.ChangeAt Go.RowKit Go.Joins Go.Proofs.YtleljodcdbhifaaDoorW.PrintWords Go.Proofs.YtleljodcdbhifaaDoorW.PrintLast Go.Proofs.YtleljodcdbhifaaDoorW.PrintMore Hy
/-- what is read at a type is an element of a kind -/
def ReadsT {α : Type} (d : Kd α) (P : Program) (e : TypeId) : Prop :=
  ∀ (H : Type) (enc : TypeId × Value → H) (w : World) (base : Nat) (spare : Nat → Bool) (held : Bool) (fuel : Nat) (cs : List Value) (x : DataW H × List MemPlace), DataW.trod enc P w base spare held fuel e cs = some x → ∃ p, d.K w p cs
theorem list_choose {α : Type} {Q : Nat → α → Prop} : ∀ {n : Nat}, (∀ i, i < n → ∃ p, Q i p) → ∃ xs : List α, xs.length = n ∧ ∀ j p, xs[j]? = some p → Q j p
  | 0, _ => ⟨[], rfl, fun j p h => by simp at h⟩
  | n + 1, h => by
    obtain ⟨xs, hl, hx⟩ := list_choose (n := n) fun i hi => h i (Nat.lt_succ_of_lt hi)
    obtain ⟨p, hp⟩ := h n (Nat.lt_succ_self n)
    refine ⟨xs ++ [p], by simp [hl], fun j q hq => ?_⟩
    rcases Nat.lt_or_ge j n with hj | hj
    · rw [List.getElem?_append_left (by omega)] at hq
      exact hx j q hq
    · rw [List.getElem?_append_right (by omega), hl] at hq
      have : j - n = 0 := by
        rcases Nat.eq_zero_or_pos (j - n) with h | h
        · exact h
        · rw [List.getElem?_eq_none (by simp; omega)] at hq; cases hq
      rw [this] at hq
      obtain rfl : p = q := by simpa using hq
      rw [show j = n by omega]
      exact hp
theorem reads_int {P : Program} {e : TypeId} {k : IntKind} (he : P.underlying e = some (.int k)) : ReadsT (Kd.int k) P e := by
  intro H enc w base spare held fuel cs x h
  obtain ⟨n, hn, _⟩ := DataW.trod_int he h
  exact ⟨n, hn⟩
theorem reads_pt {P : Program} {e : TypeId} {f0 f1 f2 : Field} (he : P.underlying e = some (.struct #[f0, f1, f2])) (o0 : f0.offset = 0) (o1 : f1.offset = 1) (o2 : f2.offset = 2)
    (c0 : P.cellsOf f0.type = 1) (c1 : P.cellsOf f1.type = 1) (c2 : P.cellsOf f2.type = 1) (ce : P.cellsOf e = 3) (u0 : P.underlying f0.type = some (.int .i64)) (u1 : P.underlying f1.type = some (.int .i64)) (u2 : P.underlying f2.type = some .bool) : ReadsT k30 P e := by
  intro H enc w base spare held fuel cs x h
  obtain ⟨xs, k, hk, hxy, hcl, hxl, hf⟩ := DataW.trod_struct he h
  rw [ce] at hcl
  match xs, hxl, cs, hcl with
  | [y0, y1, y2], _, [v0, v1, v2], _ =>
    have g0 := hf 0 f0 rfl
    have g1 := hf 1 f1 rfl
    have g2 := hf 2 f2 rfl
    simp [o0, o1, o2, c0, c1, c2] at g0 g1 g2
    obtain ⟨z0, hz0, _⟩ := DataW.trod_int u0 g0
    obtain ⟨z1, hz1, _⟩ := DataW.trod_int u1 g1
    obtain ⟨b, hb, _⟩ := DataW.trod_bool u2 g2
    simp at hz0 hz1 hb
    subst hz0 hz1 hb
    exact ⟨⟨z0, z1, b⟩, [.int .i64 z0], [.int .i64 z1, .bool b], rfl, rfl, [.int .i64 z1], [.bool b], rfl, rfl, rfl⟩
theorem reads_slice {α : Type} {d : Kd α} {P : Program} {t e : TypeId} (ht : P.underlying t = some (.slice e)) (hc : P.cellsOf e = d.sz) (h : ReadsT d P e) : ReadsT (Kd.slice e d) P t := by
  intro H enc w base spare held fuel cs x hx
  rcases Deep.open_slice ht hx with ⟨rfl, _⟩ | ⟨a, len, cap, m, n, D, Pl, rfl, hb, hl, hm, hmm, _, hel⟩
  · exact ⟨[], none, 0, rfl, Nat.le_refl _, rfl, Nat.zero_le _, fun h => absurd h (Nat.lt_irrefl _)⟩
  · have hlm : len ≤ m := by rw [hmm]; split <;> omega
    obtain ⟨xs, hxl, hxs⟩ := list_choose (n := len) (Q := fun j p => ∃ c, c.length = d.sz ∧ d.K w p c ∧ ∀ i u, c[i]? = some u → w.cell? (a.add (j * d.sz + i)) = some u) (by
      intro i hi
      obtain ⟨cs', h1, h2⟩ := hel i (by omega)
      rw [hc] at h1
      obtain ⟨_, hlen, hcell⟩ := World.cells?_some h1
      obtain ⟨p, hp⟩ := h H enc w base spare held n cs' _ h2
      refine ⟨p, cs', d.K_len hp, hp, fun j u hu => ?_⟩
      have hj : j < d.sz := by
        rcases Nat.lt_or_ge j d.sz with hlt | hge
        · exact hlt
        · rw [List.getElem?_eq_none (by rw [d.K_len hp]; exact hge)] at hu; cases hu
      have e0 := hcell j hj
      rw [Deep.add_add] at e0
      rw [e0, hu])
    refine ⟨xs, some a, cap, by rw [hxl], by omega, rfl, ?_, fun _ => ⟨a, rfl, hxs⟩⟩
    rw [hxl]
    unfold maxLen at hm
    omega
theorem arg_C {α : Type} {d : Kd α} {H : Type} {enc : TypeId × Value → H} {P : Program} {w : World} {base : Nat} {spare : Nat → Bool} {held : Bool} {t e : TypeId} {r : Reach} {b0 : Nat} {v : Value} {dd : DataW H} {p : List MemPlace} (hr : ReadsT (Kd.slice e d) P t) (ht : P.underlying t = some (.slice e))
    (hv : Value.okWide P w r b0 t v) (h : DataW.Trod enc P w base spare held t v dd p) : ∃ A c xs, v = .slice A xs.length c ∧ xs.length ≤ c ∧ Kd.C d w A xs.length xs := by
  obtain ⟨a, len, cap, rfl⟩ := okWide_slice ht hv
  obtain ⟨fuel, hf⟩ := h
  obtain ⟨xs, A, c, e1, e2, e3⟩ := hr H enc w base spare held fuel _ _ hf
  simp [Value.cells] at e1
  obtain ⟨rfl, rfl, rfl⟩ := e1
  exact ⟨_, _, xs, rfl, e2, e3⟩
theorem reads_ints2 : ReadsT (Kd.slice 60 (Kd.slice 3 (Kd.int .i64))) Tryd.prog 22 :=
  reads_slice Tryd.underlying22 (by kernel_rfl) (reads_slice Tryd.underlying60 (by kernel_rfl) (reads_int Tryd.underlying3))
theorem reads_pts2 : ReadsT (Kd.slice 28 (Kd.slice 30 k30)) Tryd.prog 23 :=
  reads_slice Tryd.underlying23 (by kernel_rfl) (reads_slice Tryd.underlying28 (by kernel_rfl) (reads_pt Tryd.underlying30 rfl rfl rfl (by kernel_rfl) (by kernel_rfl) (by kernel_rfl) (by kernel_rfl) Tryd.underlying3 Tryd.underlying3 Tryd.underlying4))
/-! the table of math/bits -/
theorem own : ownKnob Tryd.prog.godebug = none := by kernel_rfl
theorem gTab : Tryd.prog.globalNamed "math/bits.deBruijn64tab" = some 0 := by kernel_rfl
def laidL : List (String × DataW Unit) := [("math/bits.deBruijn64tab", Rows.laid_math_bits_deBruijn64tab)]
theorem laid_world (os : Os) (args : Array Value) : laidMetH Tryd.prog laidL ((World.laidAll Tryd.prog os laidL).forCall (fun _ _ => 0) ⟨#[], args, []⟩).memory := by
  rw [MakeChecks.laidMetH_plain _ _ _ (by kernel_rfl)]
  exact laidMet_laidAll args (by kernel_rfl) (by kernel_rfl)
def litN : DataW Unit → Int
  | .lit (.int _ n) => n
  | _ => 0
def litsN : DataW Unit → List Int
  | .agg l => l.map litN
  | _ => []
theorem lits_tab : litsN Rows.laid_math_bits_deBruijn64tab = Lib.deBruijn64tab.map fun n : Nat => (n : Int) := by kernel_rfl
theorem tTab : (Tryd.prog.globals[0]?).map (·.type) = some 92 := by kernel_rfl
theorem tab_laid {W : World} (h : laidMetH Tryd.prog laidL W) : Tab W := by
  rw [MakeChecks.laidMetH_plain _ _ _ (by kernel_rfl)] at h
  obtain ⟨ps, ⟨g0, t0, cs0, f0, p0, q0, hg0, ht0, hv0, hd0, _⟩, _, _⟩ := h
  obtain rfl := Option.some.inj (gTab.symm.trans hg0)
  obtain rfl := Option.some.inj (tTab.symm.trans ht0)
  obtain ⟨xs, m, _, hx, hl, hn, hel⟩ := DataW.trod_array Tryd.underlying92 hd0
  have c1 : Tryd.prog.cellsOf 5 = 1 := by kernel_rfl
  have hL : xs.map (fun x => litN x.1) = Lib.deBruijn64tab.map fun n : Nat => (n : Int) := by
    rw [← lits_tab, (Prod.mk.inj hx).1]
    simp only [litsN, List.map_map]
    rfl
  intro j hj
  have hj64 : j < 64 := hj
  have hjx : j < xs.length := by omega
  have h1 := hel j hj64
  rw [c1, Nat.mul_one, List.getElem?_eq_getElem hjx] at h1
  obtain ⟨n, e1, e2, _⟩ := DataW.trod_int Tryd.underlying5 h1
  have hn2 : n = ((Lib.deBruijn64tab.getD j 0 : Nat) : Int) := by
    have e := congrArg (fun l => l[j]?) hL
    simp only [List.getElem?_map, List.getElem?_eq_getElem hjx, e2, Option.map_some] at e
    rw [List.getD_eq_getElem?_getD, List.getElem?_eq_getElem hj] at *
    rw [Option.map_some] at e
    exact Option.some.inj e
  rw [World.var?_cell hg0 hv0 j, ← hn2]
  have hjc : j < cs0.toList.length := by
    rcases Nat.lt_or_ge j cs0.toList.length with h | h
    · exact h
    · rw [List.drop_eq_nil_of_le h] at e1; cases e1
  rw [List.drop_eq_getElem_cons hjc] at e1
  have e3 : cs0.toList[j] = .int .u8 n := by simpa using e1
  rw [← Array.getElem?_toList, List.getElem?_eq_getElem hjc, e3]
end Go.Proofs.YtleljodcdbhifaaDoor
