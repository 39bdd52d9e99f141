/- OGl, OWi, OAnc, ODel, OChk, OStr, OZip, OScl: merged by wip/prune.py. -/
import Derived.RegionTactic
import Derived.Stop.RegionWithIn
import Derived.Test.YthpccdhmppbkfaaSa1
import Derived.Test.YthpccdhmppbkfaaSa2
/- Glyphs as values; how many points they have. -/
set_option linter.unusedVariables false
set_option linter.unusedSimpArgs false
set_option maxRecDepth 100000
set_option maxHeartbeats 16000000
namespace Go.Proofs.Ythpccdhmppbkfaa
open Go.RowKit Go.Shelf Go.Proofs.YthpccdhmppbkfaaW.PrintWords Go.Proofs.YthpccdhmppbkfaaW.PrintLast Go.Proofs.YthpccdhmppbkfaaW.PrintMore
structure Gl where
 ct : List (List Pt)
 an : List I3
 hang : I3
 adv : Int
 dl : List Dl
 pr : List I2
structure Hd where
 a1 : Option Addr
 c1 : Nat
 a2 : Option Addr
 c2 : Nat
 a3 : Option Addr
 c3 : Nat
 a4 : Option Addr
 c4 : Nat
def gv (g : Gl) (h : Hd) : Array Value := #[.slice h.a1 g.ct.length h.c1, .slice h.a2 g.an.length h.c2, .int .i64 g.hang.a, .int .i64 g.hang.b, .int .i64 g.hang.c, .int .i64 g.adv, .slice h.a3 g.dl.length h.c3, .slice h.a4 g.pr.length h.c4]
structure GlR (w : World) (g : Gl) (h : Hd) : Prop where
 ct : Kd.C kCt w h.a1 g.ct.length g.ct
 an : Kd.C kI3 w h.a2 g.an.length g.an
 dl : Kd.C kDl w h.a3 g.dl.length g.dl
 pr : Kd.C kI2 w h.a4 g.pr.length g.pr
 l1 : g.ct.length ≤ h.c1
 l2 : g.an.length ≤ h.c2
 l3 : g.dl.length ≤ h.c3
 l4 : g.pr.length ≤ h.c4
theorem GlR.below {w w1 : World} {g : Gl} {h : Hd} (r : GlR w g h) (hb : Below w.heap.size w w1) : GlR w1 g h :=
 ⟨Kd.C_below r.ct hb, Kd.C_below r.an hb, Kd.C_below r.dl hb, Kd.C_below r.pr hb, r.l1, r.l2, r.l3, r.l4⟩
def ptsN (ct : List (List Pt)) : Nat := (ct.map List.length).sum
def Gl.pts (g : Gl) : Nat := g.an.length + 1 + ptsN g.ct
theorem ptsN_take (ct : List (List Pt)) (k : Nat) (h : k < ct.length) : ptsN (ct.take (k + 1)) = ptsN (ct.take k) + (ct.getD k []).length := by
 unfold ptsN
 rw [take_at ct k h [], List.map_append, List.sum_append]
 simp
theorem ptsN_le (ct : List (List Pt)) (k : Nat) : ptsN (ct.take k) ≤ ptsN ct := by
 unfold ptsN
 conv => rhs; rw [← List.take_append_drop k ct, List.map_append, List.sum_append]
 omega
def Gl.few (g : Gl) : Prop := g.ct.length ≤ 1000000 ∧ g.an.length ≤ 1000000 ∧ g.dl.length ≤ 1000000 ∧ g.pr.length ≤ 1000000 ∧ ptsN g.ct ≤ 1000000 ∧ ∀ d ∈ g.dl, d.moves.length ≤ 1000000
theorem points_any (g : Gl) (h : Hd) (w : World) (hg : GlR w g h) (hf : g.few) : Calls Try.prog 21 #[.agg (gv g h)] w fun e w' => e = .returned (.int .i64 (g.pts : Int)) ∧ Below w.heap.size w w' := by
 have HG := lH_ hg
 obtain ⟨f1, f2, _, _, f5, _⟩ := hf
 have HE : Hid (g.pts = g.an.length + 1 + ptsN g.ct) := lH_ rfl
 clear hg
 go_enter Try.func21, Try.ntmps21
 unfold gv
 go_upto_region 1 with fail
 obtain ⟨w1, b, hw, hb, B, HB, _⟩ := new_box w (gv g h) 29
 unfold gv at hw
 rw [hw, hb]
 clear hw hb
 have HG1 := lH_ (HG.out.below HB.out)
 have c0 := B.out.cell 0
 have c1 := B.out.cell 1
 simp only [gv, gA_, gZ_, gS_] at c0 c1
 go_wp2_with fail
 clear c0 c1
 have hl1 : g.ct.length ≤ 9223372036854775807 := by omega
 go_loop [3, 13] (fun s i => ∃ k : Nat, i = .int .i64 k ∧ k ≤ g.ct.length ∧ s = .int .i64 ((g.an.length : Int) + 1 + (ptsN (g.ct.take k) : Int))) (fun _ i => g.ct.length - (intOf i).toNat)
 case atStart => exact ⟨0, rfl, Nat.zero_le _, by simp [ptsN]⟩
 case round =>
  obtain ⟨k, rfl, hk, rfl⟩ := hrel
  by_cases hlt : k < g.ct.length
  ·have d1 : decide (k < g.ct.length) = true := decide_eq_true hlt
   obtain ⟨ad, c0, had, hK, g0⟩ := el1 (d := kCt) rfl HG1.out.ct [] k hlt
   obtain ⟨A0, n0, hc0, _, h2⟩ := kSl_open hK
   obtain rfl : c0 = .slice A0 (g.ct.getD k []).length n0 := List.head_eq_of_cons_eq hc0
   have HS := lH_ (ptsN_take g.ct k hlt)
   have hle := ptsN_le g.ct (k + 1)
   rw [HS.out] at hle
   generalize g.ct.getD k [] = C at *
   generalize ptsN (g.ct.take k) = s at *
   have hb1 : (k : Int) < (g.ct.length : Int) := by omega
   have HAD := lH_ had
   clear h2 hK hc0
   obtain ⟨a1, m1, a2, m2, a3, m3, a4, m4⟩ := h
   dsimp only at had
   subst had
   dsimp only
   go_wp2_with fail
   exact ⟨⟨k + 1, by go_num, by omega, by rw [HS.out]; congr 1; omega⟩, by simp [intOf]; omega⟩
  ·have d1 : decide (k < g.ct.length) = false := decide_eq_false hlt
   have hkk : g.ct.take k = g.ct := List.take_of_length_le (by omega)
   rw [hkk]
   clear hkk
   go_wp2_with fail
   go_ret
   exact ⟨ret_int (by rw [HE.out]; omega), HB.out⟩
/- outline's within and contours. -/
def wiB (m n : Int) : Bool := decide (-m ≤ n ∧ n ≤ m)
theorem wiNot_any (m n : Int) (b : Nat) (w : World) (hm : 0 ≤ m ∧ m ≤ 1000000) (hc : w.cell? ⟨b, 0, none⟩ = some (.int .i64 m)) : Calls Try.prog 78 #[.int .i64 n, .pointer (some ⟨b, 0, none⟩)] w fun e w' => e = .returned (.bool (!wiB m n)) ∧ Below w.heap.size w w' := by
 by_cases h1 : n < -m
 ·have d1 : decide (n < -m) = true := decide_eq_true h1
  have E : (!wiB m n) = true := by unfold wiB; rw [decide_eq_false (by omega)]; rfl
  rw [E]
  clear E h1
  go_enter Try.func78, Try.ntmps78
  go_wp2
  go_ret
  exact ⟨rfl, Below.refl _ _⟩
 ·have d1 : decide (n < -m) = false := decide_eq_false h1
  have E : (!wiB m n) = decide (m < n) := by unfold wiB; by_cases h : m < n <;> simp [h] <;> omega
  rw [E]
  clear E h1
  go_enter Try.func78, Try.ntmps78
  go_wp2
  go_ret
  exact ⟨rfl, Below.refl _ _⟩
theorem within_any (m : Int) (l : List Int) (A : Option Addr) (c : Nat) (w : World) (hm : 0 ≤ m ∧ m ≤ 1000000) (hC : Kd.C kI w A l.length l) : Calls Try.prog 42 #[.int .i64 m, .slice A l.length c] w fun e w' => e = .returned (.bool (!l.any fun n => !wiB m n)) ∧ Below w.heap.size w w' := by
 have HC := lH_ hC
 have hml : l.length ≤ 9223372036854775807 := hC.2.1
 clear hC
 go_enter Try.func42, Try.ntmps42
 go_upto_region 1 with fail
 obtain ⟨w1, b, hw, hb, B, HB, _⟩ := new_box w #[.int .i64 m] 3
 rw [hw, hb]
 clear hw hb
 go_wp2_with fail
 refine (any_within (d := kI) 0 (fun n => !wiB m n) l A c _ w1 rfl (Kd.C_below HC.out HB.out) (fun j _ c0 hk w2 hb2 => by
  have hk' : [c0] = [Value.int .i64 (l.getD j 0)] := hk
  obtain rfl : c0 = _ := List.head_eq_of_cons_eq hk'
  exact wiNot_any m _ b w2 hm ((B.out.below hb2).cell 0))).mono ?_
 rintro e w2 ⟨rfl, hb⟩
 have HB2 := lH_ (bthen' HB.out hb)
 clear hb
 go_wp2_with fail
 go_ret
 exact ⟨rfl, HB2.out⟩
def wi2 (m x y : Int) : Bool := wiB m x && wiB m y
theorem C_two {w : World} {g : Nat} {x y : Int} (B : Blk w g #[.int .i64 x, .int .i64 y] 3) : Kd.C kI w (some ⟨g, 0, none⟩) [x, y].length [x, y] := by
 refine ⟨rfl, by simp, fun _ => ⟨⟨g, 0, none⟩, rfl, fun j p hp => ?_⟩⟩
 match j, hp with
 | 0, hp => cases hp; exact ⟨[.int .i64 x], rfl, rfl, fun i u hu => by
   match i, hu with
   | 0, hu => cases hu; exact B.cell 0
   | i + 1, hu => simp at hu⟩
 | 1, hp => cases hp; exact ⟨[.int .i64 y], rfl, rfl, fun i u hu => by
   match i, hu with
   | 0, hu => cases hu; exact B.cell 1
   | i + 1, hu => simp at hu⟩
 | j + 2, hp => simp at hp
theorem C_one {w : World} {g : Nat} {x : Int} (B : Blk w g #[.int .i64 x] 3) : Kd.C kI w (some ⟨g, 0, none⟩) [x].length [x] := by
 refine ⟨rfl, by simp, fun _ => ⟨⟨g, 0, none⟩, rfl, fun j p hp => ?_⟩⟩
 match j, hp with
 | 0, hp => cases hp; exact ⟨[.int .i64 x], rfl, rfl, fun i u hu => by
   match i, hu with
   | 0, hu => cases hu; exact B.cell 0
   | i + 1, hu => simp at hu⟩
 | j + 1, hp => simp at hp
theorem within2_any (m x y : Int) (g c : Nat) (w : World) (hm : 0 ≤ m ∧ m ≤ 1000000) (B : Blk w g #[.int .i64 x, .int .i64 y] 3) : Calls Try.prog 42 #[.int .i64 m, .slice (some ⟨g, 0, none⟩) 2 c] w fun e w' => e = .returned (.bool (wi2 m x y)) ∧ Below w.heap.size w w' :=
 (within_any m [x, y] (some ⟨g, 0, none⟩) c w hm (C_two B)).mono fun e w' ⟨h1, h2⟩ => ⟨by rw [h1]; congr 2; unfold wi2; simp, h2⟩
theorem within1_any (m x : Int) (g c : Nat) (w : World) (hm : 0 ≤ m ∧ m ≤ 1000000) (B : Blk w g #[.int .i64 x] 3) : Calls Try.prog 42 #[.int .i64 m, .slice (some ⟨g, 0, none⟩) 1 c] w fun e w' => e = .returned (.bool (wiB m x)) ∧ Below w.heap.size w w' :=
 (within_any m [x] (some ⟨g, 0, none⟩) c w hm (C_one B)).mono fun e w' ⟨h1, h2⟩ => ⟨by rw [h1]; congr 2; simp, h2⟩
def ptB (p : Pt) : Bool := wi2 128 p.a p.b
def ctB (c : List Pt) : Bool := decide ((c.length : Int) < 3) || c.any fun p => !ptB p
def ctsB (l : List (List Pt)) : Bool := !l.any ctB
theorem ptNot_any (p : Pt) (w : World) : Calls Try.prog 90 #[.agg #[.int .i64 p.a, .int .i64 p.b, .bool p.c]] w fun e w' => e = .returned (.bool (!ptB p)) ∧ Below w.heap.size w w' := by
 obtain ⟨x, y, f⟩ := p
 dsimp only
 go_enter Try.func90, Try.ntmps90
 go_upto_region 1 with fail
 obtain ⟨w1, b, hw, hb, B, HB, _⟩ := new_box w #[.int .i64 x, .int .i64 y, .bool f] 73
 rw [hw, hb]
 clear hw hb
 have c0 := B.out.cell 0
 have c1 := B.out.cell 1
 simp only [gA_, gZ_, gS_] at c0 c1
 go_wp2_with fail
 obtain ⟨w2, g, hw, hg, S, HB2, _⟩ := new_box w1 #[.int .i64 x, .int .i64 y] 3
 rw [hw, hg]
 refine (within2_any 128 x y g 2 w2 (by omega) S.out).mono ?_
 rintro e w3 ⟨rfl, hb⟩
 have HB3 := lH_ (bthen' HB.out (bthen' HB2.out hb))
 clear hb hw hg c0 c1
 go_wp2_with fail
 go_ret
 exact ⟨rfl, HB3.out⟩
theorem ct_any (l : List Pt) (A : Option Addr) (c : Nat) (w : World) (hC : Kd.C kPt w A l.length l) : Calls Try.prog 88 #[.slice A l.length c] w fun e w' => e = .returned (.bool (ctB l)) ∧ Below w.heap.size w w' := by
 have HC := lH_ hC
 have hm : l.length ≤ 9223372036854775807 := hC.2.1
 have HE : Hid (ctB l = (decide ((l.length : Int) < 3) || l.any fun p => !ptB p)) := lH_ rfl
 generalize ctB l = r at *
 clear hC
 obtain ⟨q, d1⟩ : ∃ q, decide ((l.length : Int) < 3) = q := ⟨_, rfl⟩
 rw [d1] at HE
 cases q
 ·go_enter Try.func88, Try.ntmps88
  go_wp2_with fail
  refine (any_pt (d := kPt) zPt (fun p => !ptB p) l A c w rfl HC.out (fun j _ c0 c1 c2 hk w2 _ => by
   have hk' := kPt_open hk
   simp only [List.cons.injEq, and_true] at hk'
   obtain ⟨rfl, rfl, rfl⟩ := hk'
   exact ptNot_any _ w2)).mono ?_
  rintro e w' ⟨rfl, hb⟩
  have HB := lH_ hb
  clear hb
  go_wp2_with fail
  go_ret
  exact ⟨ret_bool (by rw [HE.out]; rfl), HB.out⟩
 ·go_enter Try.func88, Try.ntmps88
  go_wp2_with fail
  go_ret
  exact ⟨ret_bool HE.out.symm, Below.refl _ _⟩
theorem cts_any (l : List (List Pt)) (A : Option Addr) (c : Nat) (w : World) (hC : Kd.C kCt w A l.length l) : Calls Try.prog 61 #[.slice A l.length c] w fun e w' => e = .returned (.bool (ctsB l)) ∧ Below w.heap.size w w' := by
 have HC := lH_ hC
 have hm : l.length ≤ 9223372036854775807 := hC.2.1
 clear hC
 go_enter Try.func61, Try.ntmps61
 go_wp2_with fail
 refine (any_pts (d := kCt) [] ctB l A c w rfl HC.out (fun j _ c0 hk w2 hb => by
  obtain ⟨A0, n0, hc0, _, h2⟩ := kSl_open hk
  obtain rfl : c0 = _ := List.head_eq_of_cons_eq hc0
  exact ct_any _ A0 n0 w2 (Kd.C_below h2 hb))).mono ?_
 rintro e w' ⟨rfl, hb⟩
 have HB := lH_ hb
 clear hb
 go_wp2_with fail
 go_ret
 exact ⟨rfl, HB.out⟩
/- outline's anchors. -/
def oAnc.T4 : Bool × List (List Nat × List Nat) := (true, [([], []), ([0], [0]), ([1], [1]), ([2], [2]), ([3], [3]), ([4, 3], [3, 4]), ([5, 3], [3, 5]), ([3, 6], [3, 6]), ([7, 3], [7]), ([8], [8]), ([9, 8], [8, 9]), ([10, 8, 8], [8, 10]), ([11], [11]), ([11], [11]), ([13, 11], [11, 13]), ([12, 14, 11], [11, 12, 14]), ([15, 11], [11, 15]), ([16, 11], [11, 16]), ([11], [11]), ([18, 11], [11, 18]), ([17, 19, 11], [11, 17, 19]), ([11, 20, 8], [8, 11, 20]), ([8, 21], [8, 21]), ([22, 11], [22]), ([23], [23]), ([24, 23], [23, 24]), ([23], [23]), ([26, 23], [23, 26]), ([25, 27, 23], [23, 25, 27]), ([28, 23, 23], [23, 28]), ([29, 23], [23, 29]), ([23, 30], [23, 30])])
def oAnc.B4 : List Nat := [0, 1, 3, 7, 15, 31, 63, 127, 255, 511, 1023, 2047, 4095, 4095, 12287, 32767, 65535, 131071, 4095, 266239, 1048575, 2097151, 4194303, 8388607, 16777215, 33554431, 16777215, 83886079, 268435455, 536870911, 1073741823, 2147483647]
theorem oAnc.tab4 : rtab .any (opsOf Try.f62 4) = oAnc.T4 := by kernel_rfl
theorem oAnc.bits4 : waitsOk oAnc.T4.2 oAnc.B4 = true := by kernel_rfl
def anB : Int → List I3 → Bool
 | _, [] => true
 | p, a :: l => (decide (1 ≤ a.a) && decide (a.a ≤ 9) && decide (p < a.a) && wi2 128 a.b a.c) && anB a.a l
def hangB (h : I3) : Bool := if h.a = 0 then decide (h = zI3) else decide (0 < h.a) && (decide (h.a ≤ 9) && wi2 128 h.b h.c)
def ancB (l : List I3) (h : I3) : Bool := anB 0 l && hangB h
def lastC (l : List I3) (k : Nat) : Int := if k = 0 then 0 else (l.getD (k - 1) zI3).a
theorem drop_at {α : Type} (l : List α) (k : Nat) (h : k < l.length) (z : α) : l.drop k = l.getD k z :: l.drop (k + 1) := by
 rw [List.drop_eq_getElem_cons h, List.getD_eq_getElem?_getD, List.getElem?_eq_getElem h]; rfl
theorem anB_at (l : List I3) (k : Nat) (h : k < l.length) : anB (lastC l k) (l.drop k) = ((decide (1 ≤ (l.getD k zI3).a) && decide ((l.getD k zI3).a ≤ 9) && decide (lastC l k < (l.getD k zI3).a) && wi2 128 (l.getD k zI3).b (l.getD k zI3).c) && anB (lastC l (k + 1)) (l.drop (k + 1))) := by
 rw [drop_at l k h zI3]
 show ((_ && anB _ _) : Bool) = _
 rfl
theorem anchors_any (l : List I3) (hg : I3) (A : Option Addr) (c : Nat) (w : World) (hC : Kd.C kI3 w A l.length l) : Calls Try.prog 62 #[.slice A l.length c, .agg #[.int .i64 hg.a, .int .i64 hg.b, .int .i64 hg.c]] w fun e w' => e = .returned (.bool (ancB l hg)) ∧ Below w.heap.size w w' := by
 have HC := lH_ hC
 have hm : l.length ≤ 9223372036854775807 := hC.2.1
 obtain ⟨ha, hb, hc⟩ := hg
 have HE : Hid (ancB l ⟨ha, hb, hc⟩ = (anB 0 l && hangB ⟨ha, hb, hc⟩)) := lH_ rfl
 have HH : Hid (hangB ⟨ha, hb, hc⟩ = if ha = 0 then decide ((⟨ha, hb, hc⟩ : I3) = zI3) else decide (0 < ha) && (decide (ha ≤ 9) && wi2 128 hb hc)) := lH_ rfl
 clear hC
 dsimp only
 go_enter Try.func62, Try.ntmps62
 go_upto_region 1 with fail
 obtain ⟨w1, g3, hw, hg, B, HX, _⟩ := new_box w #[.int .i64 ha, .int .i64 hb, .int .i64 hc] 25
 rw [hw, hg]
 have GE3 := lH_ (Nat.le_of_eq hg)
 clear hw hg
 go_wp2_with fail
 go_loopw [9] (fun i wr => ∃ k : Nat, i = .int .i64 k ∧ k ≤ l.length ∧ Hid (anB 0 l = anB (lastC l k) (l.drop k)) ∧ Hid (Below w1.heap.size w1 wr)) (fun i _ => l.length - (intOf i).toNat)
 case atStart => exact ⟨0, rfl, Nat.zero_le _, lH_ rfl, lH_ (Below.refl _ _)⟩
 case round =>
  obtain ⟨k, rfl, hk, HA, HBr⟩ := hrel
  by_cases hlt : k < l.length
  ·have d1 : decide (k < l.length) = true := decide_eq_true hlt
   obtain ⟨ad, c0, c1, c2, rfl, hK, p0, p1, p2⟩ := el3 (d := kI3) rfl (Kd.C_below HC.out (bthen' HX.out HBr.out)) zI3 k hlt
   have hk' := kI3_open hK
   simp only [List.cons.injEq, and_true] at hk'
   obtain ⟨rfl, rfl, rfl⟩ := hk'
   have HS := lH_ (anB_at l k hlt)
   rw [HA.out] at HE
   rw [HS.out] at HE
   have hprev : k = 0 ∧ lastC l k = 0 ∨ ∃ j : Nat, k = j + 1 ∧ lastC l k = (l.getD j zI3).a := by
    rcases k with _ | j
    ·exact .inl ⟨rfl, rfl⟩
    ·exact .inr ⟨j, rfl, rfl⟩
   have HN := lH_ (show ∀ b, anB 0 l = (b && anB (lastC l (k + 1)) (l.drop (k + 1))) → b = true → anB 0 l = anB (lastC l (k + 1)) (l.drop (k + 1)) from fun b h1 h2 => by rw [h1, h2]; rfl)
   have HAA := lH_ (HA.out.trans HS.out)
   generalize l.getD k zI3 = a at *
   obtain ⟨x, y, z⟩ := a
   dsimp only at p0 p1 p2
   have b0 : (0 : Int) ≤ (k : Int) := by omega
   have b1 : (k : Int) < (l.length : Int) := by omega
   clear hK HS
   go_upto_region 4 with fail
   obtain ⟨w2, g6, hw, hg, T, HT, _⟩ := new_box wr #[.int .i64 x, .int .i64 y, .int .i64 z] 25
   rw [hw, hg]
   have HB2 := lH_ (bthen' HBr.out HT.out)
   clear hw hg p0 p1 p2 HBr
   have t0 : w2.drew.cell? ⟨g6, 0, none⟩ = some (.int .i64 x) := T.out.cell 0
   have t1 : w2.drew.cell? ⟨g6, 1, none⟩ = some (.int .i64 y) := T.out.cell 1
   have t2 : w2.drew.cell? ⟨g6, 2, none⟩ = some (.int .i64 z) := T.out.cell 2
   by_cases h1 : x < 1
   ·have e1 : decide (x < 1) = true := decide_eq_true h1
    have HF : Hid (ancB l ⟨ha, hb, hc⟩ = false) := lH_ (by rw [HE.out]; rw [decide_eq_false (by omega : ¬ 1 ≤ x)]; rfl)
    clear h1 hprev
    have t0a : w2.cell? ⟨g6, 0, none⟩ = some (.int .i64 x) := t0
    clear HAA HN HA HH HC t0 t1 t2
    go_quiet (fail)
    have HB3 := lH_ (bdrewN HB2.out nq)
    generalize w2.drewN nq = w3 at *
    go_wp2_with fail
    go_ret
    exact ⟨ret_bool HF.out.symm, bthen' HX.out HB3.out⟩
   ·have e1 : decide (x < 1) = false := decide_eq_false h1
    by_cases h2 : 9 < x
    ·have e2 : decide (9 < x) = true := decide_eq_true h2
     have HF : Hid (ancB l ⟨ha, hb, hc⟩ = false) := lH_ (by rw [HE.out]; rw [decide_eq_false (by omega : ¬ x ≤ 9), Bool.and_false]; rfl)
     clear h1 h2 hprev
     have t0a : w2.cell? ⟨g6, 0, none⟩ = some (.int .i64 x) := t0
     clear HAA HN HA HH HC t0 t1 t2
     go_quiet (fail)
     have HB3 := lH_ (bdrewN HB2.out nq)
     generalize w2.drewN nq = w3 at *
     go_wp2_with fail
     go_ret
     exact ⟨ret_bool HF.out.symm, bthen' HX.out HB3.out⟩
    ·have e2 : decide (9 < x) = false := decide_eq_false h2
     rcases hprev with ⟨hk0, hl0⟩ | ⟨j, hkj, hlj⟩
     ·have e3 : decide (0 < k) = false := decide_eq_false (by omega)
      have e3' : decide (0 < (k : Int)) = false := decide_eq_false (by omega)
      have HLT : Hid (decide (lastC l k < x) = true) := lH_ (decide_eq_true (by rw [hl0]; omega))
      clear hk0 hl0
      obtain ⟨wv, hwv⟩ : ∃ v, wi2 128 y z = v := ⟨_, rfl⟩
      have WV := aM_ hwv
      have Y1 := aM_ e1
      have Y2 := aM_ e2
      have Y3 := aM_ e3
      have Y3' := aM_ e3'
      have HKL := lH_ (show k < l.length ∧ 1 ≤ x ∧ x ≤ 9 from ⟨hlt, by omega, by omega⟩)
      clear e1 e2 e3 e3' t0 t1 t2 b0 b1 hk hlt h1 h2
      refine start_ (n := 32) (S := fun w' => True) (ds := []) #[false, false, false, false, false, false, false, false, false, false, false, false, false, false, false, false, false, false, false, false, false, false, false, false, false, false, false, false, false, false, false, false] (by kernel_rfl) rfl rfl trivial (fun hHeld => ?_)
      refine with_tabW oAnc.tab4 oAnc.bits4 (fun HT_ HW_ => ?_)
      have HB : Aside0 (Below w2.heap.size w2 w2.drew) := ⟨bdrew (Below.refl _ _)⟩
      have TB : Aside0 (Blk w2.drew g6 #[.int .i64 x, .int .i64 y, .int .i64 z] 25) := ⟨T.out.drew⟩
      generalize hwd : w2.drew = w1' at *
      clear hwd
      refine inv_at [0, 1, 2, 3, 4, 5, 6, 7, 8, 9, 10, 11, 12, 13, 14, 15, 16, 17, 18, 19, 20, 21, 22, 23, 24, 25, 26, 27, 28, 29, 30, 31] (fun a0_ b a w' => ∃ (ge : Nat) (m28_ : Value), a = putSel a0_ b [(0, 14, .pointer (some ⟨g6, 0, none⟩)), (1, 15, .int .i64 x), (2, 16, .bool false), (3, 17, .bool false), (4, 18, .pointer (some ⟨g6, 0, none⟩)), (5, 19, .int .i64 x), (6, 20, .bool false), (7, 21, .bool false), (8, 22, .bool false), (9, 23, .int .i64 k), (10, 24, .bool false), (11, 25, .bool false), (12, 26, undef), (13, 27, undef), (14, 28, undef), (15, 29, undef), (16, 30, undef), (17, 31, undef), (18, 32, undef), (19, 33, undef), (20, 34, undef), (21, 35, .bool false), (22, 36, .bool false), (23, 37, .bool false), (24, 38, .pointer (some ⟨g6, 1, none⟩)), (25, 39, .int .i64 y), (26, 40, .pointer (some ⟨g6, 2, none⟩)), (27, 41, .int .i64 z), (28, 42, m28_), (29, 43, .bool wv), (30, 44, .bool (!wv)), (31, 45, .bool (!wv))] ∧ (Below w2.heap.size w2 w') ∧ (Blk w' g6 #[.int .i64 x, .int .i64 y, .int .i64 z] 25) ∧ (b 28 = true → Blk w' ge #[.int .i64 y, .int .i64 z] 3) ∧ (b 28 = true → (m28_ : Value) = .slice (some ⟨ge, 0, none⟩) 2 2)) HT_.out HW_.out (by kernel_rfl) (by kernel_rfl) ?_ ?_ ?_
      ·exact ⟨0, .bool false, by simp only [putSel, Bool.false_eq_true, if_false], HB.out, TB.out, fun h_ => absurd h_ (by decide), fun h_ => absurd h_ (by decide)⟩
      ·skip
       clear HB TB
       refine steps_cons ?_ ?_
       ·rintro b a w' ⟨ge, m28_, ha, QHB, QTB, QEB, QX28_⟩ hb_ hon hoff
        refine ⟨_, rfl, fun K hK => ?_⟩
        have e6 : a.tmps[6]? = some (.pointer (some ⟨g6, 0, none⟩)) := by rw [ha]; exact (putSel_off rfl).trans rfl
        replace ha := aM_ ha
        have HB := aM_ QHB
        have TB := aM_ QTB
        refine value_ (w1 := w') (v := .pointer (some ⟨g6, 0, none⟩)) (by rfl) rfl ?_ ?_
        ·go_simp
         (try simp only [i64_w])
         try rfl
        refine hK.out _ _ ⟨ge, m28_, (by rw [ha.out]; exact putSel_upk 0 hb_ rfl rfl rfl), QHB, QTB, dD_ (hoff 28 rfl), dD_ (hoff 28 rfl)⟩
       refine steps_cons ?_ ?_
       ·rintro b a w' ⟨ge, m28_, ha, QHB, QTB, QEB, QX28_⟩ hb_ hon hoff
        refine ⟨_, rfl, fun K hK => ?_⟩
        have e14 : a.tmps[14]? = some (.pointer (some ⟨g6, 0, none⟩)) := by rw [ha]; exact putSel_on (e := (0, 14, .pointer (some ⟨g6, 0, none⟩))) 0 rfl rfl (hon 0 rfl) rfl
        replace ha := aM_ ha
        have HB := aM_ QHB
        have TB := aM_ QTB
        have z0 : w'.cell? ⟨g6, 0, none⟩ = some (.int .i64 x) := TB.out.cell 0
        refine value_ (w1 := w') (v := .int .i64 x) (by rfl) rfl ?_ ?_
        ·go_simp
         (try simp only [i64_w])
         try rfl
        refine hK.out _ _ ⟨ge, m28_, (by rw [ha.out]; exact putSel_upk 1 hb_ rfl rfl rfl), QHB, QTB, dD_ (hoff 28 rfl), dD_ (hoff 28 rfl)⟩
       refine steps_cons ?_ ?_
       ·rintro b a w' ⟨ge, m28_, ha, QHB, QTB, QEB, QX28_⟩ hb_ hon hoff
        refine ⟨_, rfl, fun K hK => ?_⟩
        have e15 : a.tmps[15]? = some (.int .i64 x) := by rw [ha]; exact putSel_on (e := (1, 15, .int .i64 x)) 1 rfl rfl (hon 1 rfl) rfl
        replace ha := aM_ ha
        have HB := aM_ QHB
        have TB := aM_ QTB
        have y0 := Y1.out
        refine value_ (w1 := w') (v := .bool false) (by rfl) rfl ?_ ?_
        ·go_simp
         (try simp only [i64_w])
         try rfl
        refine hK.out _ _ ⟨ge, m28_, (by rw [ha.out]; exact putSel_upk 2 hb_ rfl rfl rfl), QHB, QTB, dD_ (hoff 28 rfl), dD_ (hoff 28 rfl)⟩
       refine steps_cons ?_ ?_
       ·rintro b a w' ⟨ge, m28_, ha, QHB, QTB, QEB, QX28_⟩ hb_ hon hoff
        refine ⟨_, rfl, fun K hK => ?_⟩
        have e16 : a.tmps[16]? = some (.bool false) := by rw [ha]; exact putSel_on (e := (2, 16, .bool false)) 2 rfl rfl (hon 2 rfl) rfl
        replace ha := aM_ ha
        have HB := aM_ QHB
        have TB := aM_ QTB
        refine value_ (w1 := w') (v := .bool false) (by rfl) rfl ?_ ?_
        ·go_simp
         (try simp only [i64_w])
         try rfl
        refine hK.out _ _ ⟨ge, m28_, (by rw [ha.out]; exact putSel_upk 3 hb_ rfl rfl rfl), QHB, QTB, dD_ (hoff 28 rfl), dD_ (hoff 28 rfl)⟩
       refine steps_cons ?_ ?_
       ·rintro b a w' ⟨ge, m28_, ha, QHB, QTB, QEB, QX28_⟩ hb_ hon hoff
        refine ⟨_, rfl, fun K hK => ?_⟩
        have e6 : a.tmps[6]? = some (.pointer (some ⟨g6, 0, none⟩)) := by rw [ha]; exact (putSel_off rfl).trans rfl
        have e17 : a.tmps[17]? = some (.bool false) := by rw [ha]; exact putSel_on (e := (3, 17, .bool false)) 3 rfl rfl (hon 3 rfl) rfl
        replace ha := aM_ ha
        have HB := aM_ QHB
        have TB := aM_ QTB
        refine value_ (w1 := w') (v := .pointer (some ⟨g6, 0, none⟩)) (wanted_on rfl rfl rfl (e17.trans (by first | rfl | (simp [*]; done)))) rfl ?_ ?_
        ·go_simp
         (try simp only [i64_w])
         try rfl
        refine hK.out _ _ ⟨ge, m28_, (by rw [ha.out]; exact putSel_upk 4 hb_ rfl rfl rfl), QHB, QTB, dD_ (hoff 28 rfl), dD_ (hoff 28 rfl)⟩
       refine steps_cons ?_ ?_
       ·rintro b a w' ⟨ge, m28_, ha, QHB, QTB, QEB, QX28_⟩ hb_ hon hoff
        refine ⟨_, rfl, fun K hK => ?_⟩
        have e18 : a.tmps[18]? = some (.pointer (some ⟨g6, 0, none⟩)) := by rw [ha]; exact putSel_on (e := (4, 18, .pointer (some ⟨g6, 0, none⟩))) 4 rfl rfl (hon 4 rfl) rfl
        have e17 : a.tmps[17]? = some (.bool false) := by rw [ha]; exact putSel_on (e := (3, 17, .bool false)) 3 rfl rfl (hon 3 rfl) rfl
        replace ha := aM_ ha
        have HB := aM_ QHB
        have TB := aM_ QTB
        have z0 : w'.cell? ⟨g6, 0, none⟩ = some (.int .i64 x) := TB.out.cell 0
        refine value_ (w1 := w') (v := .int .i64 x) (wanted_on rfl rfl rfl (e17.trans (by first | rfl | (simp [*]; done)))) rfl ?_ ?_
        ·go_simp
         (try simp only [i64_w])
         try rfl
        refine hK.out _ _ ⟨ge, m28_, (by rw [ha.out]; exact putSel_upk 5 hb_ rfl rfl rfl), QHB, QTB, dD_ (hoff 28 rfl), dD_ (hoff 28 rfl)⟩
       refine steps_cons ?_ ?_
       ·rintro b a w' ⟨ge, m28_, ha, QHB, QTB, QEB, QX28_⟩ hb_ hon hoff
        refine ⟨_, rfl, fun K hK => ?_⟩
        have e19 : a.tmps[19]? = some (.int .i64 x) := by rw [ha]; exact putSel_on (e := (5, 19, .int .i64 x)) 5 rfl rfl (hon 5 rfl) rfl
        have e17 : a.tmps[17]? = some (.bool false) := by rw [ha]; exact putSel_on (e := (3, 17, .bool false)) 3 rfl rfl (hon 3 rfl) rfl
        replace ha := aM_ ha
        have HB := aM_ QHB
        have TB := aM_ QTB
        have y0 := Y2.out
        refine value_ (w1 := w') (v := .bool false) (wanted_on rfl rfl rfl (e17.trans (by first | rfl | (simp [*]; done)))) rfl ?_ ?_
        ·go_simp
         (try simp only [i64_w])
         try rfl
        refine hK.out _ _ ⟨ge, m28_, (by rw [ha.out]; exact putSel_upk 6 hb_ rfl rfl rfl), QHB, QTB, dD_ (hoff 28 rfl), dD_ (hoff 28 rfl)⟩
       refine steps_cons ?_ ?_
       ·rintro b a w' ⟨ge, m28_, ha, QHB, QTB, QEB, QX28_⟩ hb_ hon hoff
        refine ⟨_, rfl, fun K hK => ?_⟩
        have e17 : a.tmps[17]? = some (.bool false) := by rw [ha]; exact putSel_on (e := (3, 17, .bool false)) 3 rfl rfl (hon 3 rfl) rfl
        have e20 : a.tmps[20]? = some (.bool false) := by rw [ha]; exact putSel_on (e := (6, 20, .bool false)) 6 rfl rfl (hon 6 rfl) rfl
        replace ha := aM_ ha
        have HB := aM_ QHB
        have TB := aM_ QTB
        refine value_ (w1 := w') (v := .bool false) (by rfl) rfl ?_ ?_
        ·go_simp
         (try simp only [i64_w])
         try rfl
        refine hK.out _ _ ⟨ge, m28_, (by rw [ha.out]; exact putSel_upk 7 hb_ rfl rfl rfl), QHB, QTB, dD_ (hoff 28 rfl), dD_ (hoff 28 rfl)⟩
       refine steps_cons ?_ ?_
       ·rintro b a w' ⟨ge, m28_, ha, QHB, QTB, QEB, QX28_⟩ hb_ hon hoff
        refine ⟨_, rfl, fun K hK => ?_⟩
        have e21 : a.tmps[21]? = some (.bool false) := by rw [ha]; exact putSel_on (e := (7, 21, .bool false)) 7 rfl rfl (hon 7 rfl) rfl
        replace ha := aM_ ha
        have HB := aM_ QHB
        have TB := aM_ QTB
        refine value_ (w1 := w') (v := .bool false) (by rfl) rfl ?_ ?_
        ·go_simp
         (try simp only [i64_w])
         try rfl
        refine hK.out _ _ ⟨ge, m28_, (by rw [ha.out]; exact putSel_upk 8 hb_ rfl rfl rfl), QHB, QTB, dD_ (hoff 28 rfl), dD_ (hoff 28 rfl)⟩
       refine steps_cons ?_ ?_
       ·rintro b a w' ⟨ge, m28_, ha, QHB, QTB, QEB, QX28_⟩ hb_ hon hoff
        refine ⟨_, rfl, fun K hK => ?_⟩
        have e5 : a.tmps[5]? = some (.int .i64 k) := by rw [ha]; exact (putSel_off rfl).trans rfl
        have e22 : a.tmps[22]? = some (.bool false) := by rw [ha]; exact putSel_on (e := (8, 22, .bool false)) 8 rfl rfl (hon 8 rfl) rfl
        replace ha := aM_ ha
        have HB := aM_ QHB
        have TB := aM_ QTB
        refine value_ (w1 := w') (v := .int .i64 k) (wanted_on rfl rfl rfl (e22.trans (by first | rfl | (simp [*]; done)))) rfl ?_ ?_
        ·go_simp
         (try simp only [i64_w])
         try rfl
        refine hK.out _ _ ⟨ge, m28_, (by rw [ha.out]; exact putSel_upk 9 hb_ rfl rfl rfl), QHB, QTB, dD_ (hoff 28 rfl), dD_ (hoff 28 rfl)⟩
       refine steps_cons ?_ ?_
       ·rintro b a w' ⟨ge, m28_, ha, QHB, QTB, QEB, QX28_⟩ hb_ hon hoff
        refine ⟨_, rfl, fun K hK => ?_⟩
        have e23 : a.tmps[23]? = some (.int .i64 k) := by rw [ha]; exact putSel_on (e := (9, 23, .int .i64 k)) 9 rfl rfl (hon 9 rfl) rfl
        have e22 : a.tmps[22]? = some (.bool false) := by rw [ha]; exact putSel_on (e := (8, 22, .bool false)) 8 rfl rfl (hon 8 rfl) rfl
        replace ha := aM_ ha
        have HB := aM_ QHB
        have TB := aM_ QTB
        have y0 := Y3.out
        have y1 := Y3'.out
        refine value_ (w1 := w') (v := .bool false) (wanted_on rfl rfl rfl (e22.trans (by first | rfl | (simp [*]; done)))) rfl ?_ ?_
        ·go_simp
         (try simp only [i64_w])
         try rfl
        refine hK.out _ _ ⟨ge, m28_, (by rw [ha.out]; exact putSel_upk 10 hb_ rfl rfl rfl), QHB, QTB, dD_ (hoff 28 rfl), dD_ (hoff 28 rfl)⟩
       refine steps_cons ?_ ?_
       ·rintro b a w' ⟨ge, m28_, ha, QHB, QTB, QEB, QX28_⟩ hb_ hon hoff
        refine ⟨_, rfl, fun K hK => ?_⟩
        have e24 : a.tmps[24]? = some (.bool false) := by rw [ha]; exact putSel_on (e := (10, 24, .bool false)) 10 rfl rfl (hon 10 rfl) rfl
        have e22 : a.tmps[22]? = some (.bool false) := by rw [ha]; exact putSel_on (e := (8, 22, .bool false)) 8 rfl rfl (hon 8 rfl) rfl
        replace ha := aM_ ha
        have HB := aM_ QHB
        have TB := aM_ QTB
        refine value_ (w1 := w') (v := .bool false) (wanted_on rfl rfl rfl (e22.trans (by first | rfl | (simp [*]; done)))) rfl ?_ ?_
        ·go_simp
         (try simp only [i64_w])
         try rfl
        refine hK.out _ _ ⟨ge, m28_, (by rw [ha.out]; exact putSel_upk 11 hb_ rfl rfl rfl), QHB, QTB, dD_ (hoff 28 rfl), dD_ (hoff 28 rfl)⟩
       refine steps_cons ?_ ?_
       ·rintro b a w' ⟨ge, m28_, ha, QHB, QTB, QEB, QX28_⟩ hb_ hon hoff
        refine ⟨_, rfl, fun K hK => ?_⟩
        have e25 : a.tmps[25]? = some (.bool false) := by rw [ha]; exact putSel_on (e := (11, 25, .bool false)) 11 rfl rfl (hon 11 rfl) rfl
        replace ha := aM_ ha
        have HB := aM_ QHB
        have TB := aM_ QTB
        refine off_ (wanted_off rfl rfl rfl (e25.trans (by first | rfl | (simp [*]; done)))) ?_
        refine hK.out _ _ ⟨ge, m28_, (by rw [ha.out]; exact putSel_upk 12 hb_ rfl rfl rfl), QHB, QTB, dD_ (hoff 28 rfl), dD_ (hoff 28 rfl)⟩
       refine steps_cons ?_ ?_
       ·rintro b a w' ⟨ge, m28_, ha, QHB, QTB, QEB, QX28_⟩ hb_ hon hoff
        refine ⟨_, rfl, fun K hK => ?_⟩
        have e25 : a.tmps[25]? = some (.bool false) := by rw [ha]; exact putSel_on (e := (11, 25, .bool false)) 11 rfl rfl (hon 11 rfl) rfl
        replace ha := aM_ ha
        have HB := aM_ QHB
        have TB := aM_ QTB
        refine off_ (wanted_off rfl rfl rfl (e25.trans (by first | rfl | (simp [*]; done)))) ?_
        refine hK.out _ _ ⟨ge, m28_, (by rw [ha.out]; exact putSel_upk 13 hb_ rfl rfl rfl), QHB, QTB, dD_ (hoff 28 rfl), dD_ (hoff 28 rfl)⟩
       refine steps_cons ?_ ?_
       ·rintro b a w' ⟨ge, m28_, ha, QHB, QTB, QEB, QX28_⟩ hb_ hon hoff
        refine ⟨_, rfl, fun K hK => ?_⟩
        have e25 : a.tmps[25]? = some (.bool false) := by rw [ha]; exact putSel_on (e := (11, 25, .bool false)) 11 rfl rfl (hon 11 rfl) rfl
        replace ha := aM_ ha
        have HB := aM_ QHB
        have TB := aM_ QTB
        refine off_ (wanted_off rfl rfl rfl (e25.trans (by first | rfl | (simp [*]; done)))) ?_
        refine hK.out _ _ ⟨ge, m28_, (by rw [ha.out]; exact putSel_upk 14 hb_ rfl rfl rfl), QHB, QTB, dD_ (hoff 28 rfl), dD_ (hoff 28 rfl)⟩
       refine steps_cons ?_ ?_
       ·rintro b a w' ⟨ge, m28_, ha, QHB, QTB, QEB, QX28_⟩ hb_ hon hoff
        refine ⟨_, rfl, fun K hK => ?_⟩
        have e25 : a.tmps[25]? = some (.bool false) := by rw [ha]; exact putSel_on (e := (11, 25, .bool false)) 11 rfl rfl (hon 11 rfl) rfl
        replace ha := aM_ ha
        have HB := aM_ QHB
        have TB := aM_ QTB
        refine off_ (wanted_off rfl rfl rfl (e25.trans (by first | rfl | (simp [*]; done)))) ?_
        refine hK.out _ _ ⟨ge, m28_, (by rw [ha.out]; exact putSel_upk 15 hb_ rfl rfl rfl), QHB, QTB, dD_ (hoff 28 rfl), dD_ (hoff 28 rfl)⟩
       refine steps_cons ?_ ?_
       ·rintro b a w' ⟨ge, m28_, ha, QHB, QTB, QEB, QX28_⟩ hb_ hon hoff
        refine ⟨_, rfl, fun K hK => ?_⟩
        have e25 : a.tmps[25]? = some (.bool false) := by rw [ha]; exact putSel_on (e := (11, 25, .bool false)) 11 rfl rfl (hon 11 rfl) rfl
        replace ha := aM_ ha
        have HB := aM_ QHB
        have TB := aM_ QTB
        refine off_ (wanted_off rfl rfl rfl (e25.trans (by first | rfl | (simp [*]; done)))) ?_
        refine hK.out _ _ ⟨ge, m28_, (by rw [ha.out]; exact putSel_upk 16 hb_ rfl rfl rfl), QHB, QTB, dD_ (hoff 28 rfl), dD_ (hoff 28 rfl)⟩
       refine steps_cons ?_ ?_
       ·rintro b a w' ⟨ge, m28_, ha, QHB, QTB, QEB, QX28_⟩ hb_ hon hoff
        refine ⟨_, rfl, fun K hK => ?_⟩
        have e25 : a.tmps[25]? = some (.bool false) := by rw [ha]; exact putSel_on (e := (11, 25, .bool false)) 11 rfl rfl (hon 11 rfl) rfl
        replace ha := aM_ ha
        have HB := aM_ QHB
        have TB := aM_ QTB
        refine off_ (wanted_off rfl rfl rfl (e25.trans (by first | rfl | (simp [*]; done)))) ?_
        refine hK.out _ _ ⟨ge, m28_, (by rw [ha.out]; exact putSel_upk 17 hb_ rfl rfl rfl), QHB, QTB, dD_ (hoff 28 rfl), dD_ (hoff 28 rfl)⟩
       refine steps_cons ?_ ?_
       ·rintro b a w' ⟨ge, m28_, ha, QHB, QTB, QEB, QX28_⟩ hb_ hon hoff
        refine ⟨_, rfl, fun K hK => ?_⟩
        have e25 : a.tmps[25]? = some (.bool false) := by rw [ha]; exact putSel_on (e := (11, 25, .bool false)) 11 rfl rfl (hon 11 rfl) rfl
        replace ha := aM_ ha
        have HB := aM_ QHB
        have TB := aM_ QTB
        refine off_ (wanted_off rfl rfl rfl (e25.trans (by first | rfl | (simp [*]; done)))) ?_
        refine hK.out _ _ ⟨ge, m28_, (by rw [ha.out]; exact putSel_upk 18 hb_ rfl rfl rfl), QHB, QTB, dD_ (hoff 28 rfl), dD_ (hoff 28 rfl)⟩
       refine steps_cons ?_ ?_
       ·rintro b a w' ⟨ge, m28_, ha, QHB, QTB, QEB, QX28_⟩ hb_ hon hoff
        refine ⟨_, rfl, fun K hK => ?_⟩
        have e25 : a.tmps[25]? = some (.bool false) := by rw [ha]; exact putSel_on (e := (11, 25, .bool false)) 11 rfl rfl (hon 11 rfl) rfl
        replace ha := aM_ ha
        have HB := aM_ QHB
        have TB := aM_ QTB
        refine off_ (wanted_off rfl rfl rfl (e25.trans (by first | rfl | (simp [*]; done)))) ?_
        refine hK.out _ _ ⟨ge, m28_, (by rw [ha.out]; exact putSel_upk 19 hb_ rfl rfl rfl), QHB, QTB, dD_ (hoff 28 rfl), dD_ (hoff 28 rfl)⟩
       refine steps_cons ?_ ?_
       ·rintro b a w' ⟨ge, m28_, ha, QHB, QTB, QEB, QX28_⟩ hb_ hon hoff
        refine ⟨_, rfl, fun K hK => ?_⟩
        have e25 : a.tmps[25]? = some (.bool false) := by rw [ha]; exact putSel_on (e := (11, 25, .bool false)) 11 rfl rfl (hon 11 rfl) rfl
        replace ha := aM_ ha
        have HB := aM_ QHB
        have TB := aM_ QTB
        refine off_ (wanted_off rfl rfl rfl (e25.trans (by first | rfl | (simp [*]; done)))) ?_
        refine hK.out _ _ ⟨ge, m28_, (by rw [ha.out]; exact putSel_upk 20 hb_ rfl rfl rfl), QHB, QTB, dD_ (hoff 28 rfl), dD_ (hoff 28 rfl)⟩
       refine steps_cons ?_ ?_
       ·rintro b a w' ⟨ge, m28_, ha, QHB, QTB, QEB, QX28_⟩ hb_ hon hoff
        refine ⟨_, rfl, fun K hK => ?_⟩
        have e25 : a.tmps[25]? = some (.bool false) := by rw [ha]; exact putSel_on (e := (11, 25, .bool false)) 11 rfl rfl (hon 11 rfl) rfl
        have e34 : a.tmps[34]? = some (undef) := by rw [ha]; exact putSel_on (e := (20, 34, undef)) 20 rfl rfl (hon 20 rfl) rfl
        have e22 : a.tmps[22]? = some (.bool false) := by rw [ha]; exact putSel_on (e := (8, 22, .bool false)) 8 rfl rfl (hon 8 rfl) rfl
        replace ha := aM_ ha
        have HB := aM_ QHB
        have TB := aM_ QTB
        refine value_ (w1 := w') (v := .bool false) (wanted_on rfl rfl rfl (e22.trans (by first | rfl | (simp [*]; done)))) rfl ?_ ?_
        ·go_simp
         (try simp only [i64_w])
         try rfl
        refine hK.out _ _ ⟨ge, m28_, (by rw [ha.out]; exact putSel_upk 21 hb_ rfl rfl rfl), QHB, QTB, dD_ (hoff 28 rfl), dD_ (hoff 28 rfl)⟩
       refine steps_cons ?_ ?_
       ·rintro b a w' ⟨ge, m28_, ha, QHB, QTB, QEB, QX28_⟩ hb_ hon hoff
        refine ⟨_, rfl, fun K hK => ?_⟩
        have e22 : a.tmps[22]? = some (.bool false) := by rw [ha]; exact putSel_on (e := (8, 22, .bool false)) 8 rfl rfl (hon 8 rfl) rfl
        have e35 : a.tmps[35]? = some (.bool false) := by rw [ha]; exact putSel_on (e := (21, 35, .bool false)) 21 rfl rfl (hon 21 rfl) rfl
        replace ha := aM_ ha
        have HB := aM_ QHB
        have TB := aM_ QTB
        refine value_ (w1 := w') (v := .bool false) (by rfl) rfl ?_ ?_
        ·go_simp
         (try simp only [i64_w])
         try rfl
        refine hK.out _ _ ⟨ge, m28_, (by rw [ha.out]; exact putSel_upk 22 hb_ rfl rfl rfl), QHB, QTB, dD_ (hoff 28 rfl), dD_ (hoff 28 rfl)⟩
       refine steps_cons ?_ ?_
       ·rintro b a w' ⟨ge, m28_, ha, QHB, QTB, QEB, QX28_⟩ hb_ hon hoff
        refine ⟨_, rfl, fun K hK => ?_⟩
        have e36 : a.tmps[36]? = some (.bool false) := by rw [ha]; exact putSel_on (e := (22, 36, .bool false)) 22 rfl rfl (hon 22 rfl) rfl
        replace ha := aM_ ha
        have HB := aM_ QHB
        have TB := aM_ QTB
        refine value_ (w1 := w') (v := .bool false) (by rfl) rfl ?_ ?_
        ·go_simp
         (try simp only [i64_w])
         try rfl
        refine hK.out _ _ ⟨ge, m28_, (by rw [ha.out]; exact putSel_upk 23 hb_ rfl rfl rfl), QHB, QTB, dD_ (hoff 28 rfl), dD_ (hoff 28 rfl)⟩
       refine steps_cons ?_ ?_
       ·rintro b a w' ⟨ge, m28_, ha, QHB, QTB, QEB, QX28_⟩ hb_ hon hoff
        refine ⟨_, rfl, fun K hK => ?_⟩
        have e6 : a.tmps[6]? = some (.pointer (some ⟨g6, 0, none⟩)) := by rw [ha]; exact (putSel_off rfl).trans rfl
        have e37 : a.tmps[37]? = some (.bool false) := by rw [ha]; exact putSel_on (e := (23, 37, .bool false)) 23 rfl rfl (hon 23 rfl) rfl
        replace ha := aM_ ha
        have HB := aM_ QHB
        have TB := aM_ QTB
        refine value_ (w1 := w') (v := .pointer (some ⟨g6, 1, none⟩)) (wanted_on rfl rfl rfl (e37.trans (by first | rfl | (simp [*]; done)))) rfl ?_ ?_
        ·go_simp
         (try simp only [i64_w])
         try rfl
        refine hK.out _ _ ⟨ge, m28_, (by rw [ha.out]; exact putSel_upk 24 hb_ rfl rfl rfl), QHB, QTB, dD_ (hoff 28 rfl), dD_ (hoff 28 rfl)⟩
       refine steps_cons ?_ ?_
       ·rintro b a w' ⟨ge, m28_, ha, QHB, QTB, QEB, QX28_⟩ hb_ hon hoff
        refine ⟨_, rfl, fun K hK => ?_⟩
        have e38 : a.tmps[38]? = some (.pointer (some ⟨g6, 1, none⟩)) := by rw [ha]; exact putSel_on (e := (24, 38, .pointer (some ⟨g6, 1, none⟩))) 24 rfl rfl (hon 24 rfl) rfl
        have e37 : a.tmps[37]? = some (.bool false) := by rw [ha]; exact putSel_on (e := (23, 37, .bool false)) 23 rfl rfl (hon 23 rfl) rfl
        replace ha := aM_ ha
        have HB := aM_ QHB
        have TB := aM_ QTB
        have z1 : w'.cell? ⟨g6, 1, none⟩ = some (.int .i64 y) := TB.out.cell 1
        refine value_ (w1 := w') (v := .int .i64 y) (wanted_on rfl rfl rfl (e37.trans (by first | rfl | (simp [*]; done)))) rfl ?_ ?_
        ·go_simp
         (try simp only [i64_w])
         try rfl
        refine hK.out _ _ ⟨ge, m28_, (by rw [ha.out]; exact putSel_upk 25 hb_ rfl rfl rfl), QHB, QTB, dD_ (hoff 28 rfl), dD_ (hoff 28 rfl)⟩
       refine steps_cons ?_ ?_
       ·rintro b a w' ⟨ge, m28_, ha, QHB, QTB, QEB, QX28_⟩ hb_ hon hoff
        refine ⟨_, rfl, fun K hK => ?_⟩
        have e6 : a.tmps[6]? = some (.pointer (some ⟨g6, 0, none⟩)) := by rw [ha]; exact (putSel_off rfl).trans rfl
        have e37 : a.tmps[37]? = some (.bool false) := by rw [ha]; exact putSel_on (e := (23, 37, .bool false)) 23 rfl rfl (hon 23 rfl) rfl
        replace ha := aM_ ha
        have HB := aM_ QHB
        have TB := aM_ QTB
        refine value_ (w1 := w') (v := .pointer (some ⟨g6, 2, none⟩)) (wanted_on rfl rfl rfl (e37.trans (by first | rfl | (simp [*]; done)))) rfl ?_ ?_
        ·go_simp
         (try simp only [i64_w])
         try rfl
        refine hK.out _ _ ⟨ge, m28_, (by rw [ha.out]; exact putSel_upk 26 hb_ rfl rfl rfl), QHB, QTB, dD_ (hoff 28 rfl), dD_ (hoff 28 rfl)⟩
       refine steps_cons ?_ ?_
       ·rintro b a w' ⟨ge, m28_, ha, QHB, QTB, QEB, QX28_⟩ hb_ hon hoff
        refine ⟨_, rfl, fun K hK => ?_⟩
        have e40 : a.tmps[40]? = some (.pointer (some ⟨g6, 2, none⟩)) := by rw [ha]; exact putSel_on (e := (26, 40, .pointer (some ⟨g6, 2, none⟩))) 26 rfl rfl (hon 26 rfl) rfl
        have e37 : a.tmps[37]? = some (.bool false) := by rw [ha]; exact putSel_on (e := (23, 37, .bool false)) 23 rfl rfl (hon 23 rfl) rfl
        replace ha := aM_ ha
        have HB := aM_ QHB
        have TB := aM_ QTB
        have z2 : w'.cell? ⟨g6, 2, none⟩ = some (.int .i64 z) := TB.out.cell 2
        refine value_ (w1 := w') (v := .int .i64 z) (wanted_on rfl rfl rfl (e37.trans (by first | rfl | (simp [*]; done)))) rfl ?_ ?_
        ·go_simp
         (try simp only [i64_w])
         try rfl
        refine hK.out _ _ ⟨ge, m28_, (by rw [ha.out]; exact putSel_upk 27 hb_ rfl rfl rfl), QHB, QTB, dD_ (hoff 28 rfl), dD_ (hoff 28 rfl)⟩
       refine steps_cons ?_ ?_
       ·rintro b a w' ⟨ge, m28_, ha, QHB, QTB, QEB, QX28_⟩ hb_ hon hoff
        refine ⟨_, rfl, fun K hK => ?_⟩
        have e39 : a.tmps[39]? = some (.int .i64 y) := by rw [ha]; exact putSel_on (e := (25, 39, .int .i64 y)) 25 rfl rfl (hon 25 rfl) rfl
        have e41 : a.tmps[41]? = some (.int .i64 z) := by rw [ha]; exact putSel_on (e := (27, 41, .int .i64 z)) 27 rfl rfl (hon 27 rfl) rfl
        have e37 : a.tmps[37]? = some (.bool false) := by rw [ha]; exact putSel_on (e := (23, 37, .bool false)) 23 rfl rfl (hon 23 rfl) rfl
        replace ha := aM_ ha
        have HB := aM_ QHB
        have TB := aM_ QTB
        refine value_ (w1 := w'.alloc (.cells #[.int .i64 y, .int .i64 z] 3)) (v := .slice (some ⟨w'.heap.size, 0, none⟩) 2 2) (wanted_on rfl rfl rfl (e37.trans rfl)) rfl ?_ ?_
        ·go_simp
        refine hK.out _ _ ⟨w'.heap.size, (.slice (some ⟨w'.heap.size, 0, none⟩) 2 2), (by rw [ha.out]; exact putSel_upk 28 hb_ rfl rfl rfl), bthen' HB.out (below_alloc (Below.refl _ w') _), TB.out.alloc _, fun _ => Blk.new w' _ _ rfl, fun _ => rfl⟩
       refine steps_cons ?_ ?_
       ·rintro b a w' ⟨ge, m28_, ha, QHB, QTB, QEB, QX28_⟩ hb_ hon hoff
        refine ⟨_, rfl, fun K hK => ?_⟩
        have e42 : a.tmps[42]? = some (m28_) := by rw [ha]; exact putSel_on (e := (28, 42, m28_)) 28 rfl rfl (hon 28 rfl) rfl
        rw [QX28_ (hon 28 rfl)] at e42
        have e37 : a.tmps[37]? = some (.bool false) := by rw [ha]; exact putSel_on (e := (23, 37, .bool false)) 23 rfl rfl (hon 23 rfl) rfl
        replace ha := aM_ ha
        have HB := aM_ QHB
        have TB := aM_ QTB
        have EB := aM_ (QEB (hon 28 rfl))
        refine call_ 42 #[.int .i64 128, .slice (some ⟨ge, 0, none⟩) 2 2] (wanted_on rfl rfl rfl (e37.trans rfl)) rfl ?_ ?_
        ·go_simp
        refine (within2_any 128 y z ge 2 w' (by omega) EB.out).mono ?_
        rintro e w2' ⟨rfl, hb⟩
        rw [WV.out]
        refine ⟨_, rfl, ?_⟩
        refine hK.out _ _ ⟨ge, m28_, (by rw [ha.out]; exact putSel_upk 29 hb_ rfl rfl rfl), bthen' HB.out hb, TB.out.below hb, fun _ => EB.out.below hb, QX28_⟩
       refine steps_cons ?_ ?_
       ·rintro b a w' ⟨ge, m28_, ha, QHB, QTB, QEB, QX28_⟩ hb_ hon hoff
        refine ⟨_, rfl, fun K hK => ?_⟩
        have e43 : a.tmps[43]? = some (.bool wv) := by rw [ha]; exact putSel_on (e := (29, 43, .bool wv)) 29 rfl rfl (hon 29 rfl) rfl
        have e37 : a.tmps[37]? = some (.bool false) := by rw [ha]; exact putSel_on (e := (23, 37, .bool false)) 23 rfl rfl (hon 23 rfl) rfl
        replace ha := aM_ ha
        have HB := aM_ QHB
        have TB := aM_ QTB
        have EB := aM_ (QEB (hon 28 rfl))
        refine value_ (w1 := w') (v := .bool (!wv)) (wanted_on rfl rfl rfl (e37.trans (by first | rfl | (simp [*]; done)))) rfl ?_ ?_
        ·go_simp
         (try simp only [i64_w])
         try rfl
        refine hK.out _ _ ⟨ge, m28_, (by rw [ha.out]; exact putSel_upk 30 hb_ rfl rfl rfl), QHB, QTB, QEB, QX28_⟩
       refine steps_cons ?_ ?_
       ·rintro b a w' ⟨ge, m28_, ha, QHB, QTB, QEB, QX28_⟩ hb_ hon hoff
        refine ⟨_, rfl, fun K hK => ?_⟩
        have e37 : a.tmps[37]? = some (.bool false) := by rw [ha]; exact putSel_on (e := (23, 37, .bool false)) 23 rfl rfl (hon 23 rfl) rfl
        have e44 : a.tmps[44]? = some (.bool (!wv)) := by rw [ha]; exact putSel_on (e := (30, 44, .bool (!wv))) 30 rfl rfl (hon 30 rfl) rfl
        replace ha := aM_ ha
        have HB := aM_ QHB
        have TB := aM_ QTB
        have EB := aM_ (QEB (hon 28 rfl))
        refine value_ (w1 := w') (v := .bool (!wv)) (by rfl) rfl ?_ ?_
        ·go_simp
         (try simp only [i64_w])
         try rfl
        refine hK.out _ _ ⟨ge, m28_, (by rw [ha.out]; exact putSel_upk 31 hb_ rfl rfl rfl), QHB, QTB, QEB, QX28_⟩
       exact steps_nil
      ·rintro b a w' hall ⟨ge, m28_, ha, QHB, QTB, QEB, QX28_⟩
       clear HB TB
       have hb0_ := hall 0 (by kernel_rfl)
       have hb1_ := hall 1 (by kernel_rfl)
       have hb2_ := hall 2 (by kernel_rfl)
       have hb3_ := hall 3 (by kernel_rfl)
       have hb4_ := hall 4 (by kernel_rfl)
       have hb5_ := hall 5 (by kernel_rfl)
       have hb6_ := hall 6 (by kernel_rfl)
       have hb7_ := hall 7 (by kernel_rfl)
       have hb8_ := hall 8 (by kernel_rfl)
       have hb9_ := hall 9 (by kernel_rfl)
       have hb10_ := hall 10 (by kernel_rfl)
       have hb11_ := hall 11 (by kernel_rfl)
       have hb12_ := hall 12 (by kernel_rfl)
       have hb13_ := hall 13 (by kernel_rfl)
       have hb14_ := hall 14 (by kernel_rfl)
       have hb15_ := hall 15 (by kernel_rfl)
       have hb16_ := hall 16 (by kernel_rfl)
       have hb17_ := hall 17 (by kernel_rfl)
       have hb18_ := hall 18 (by kernel_rfl)
       have hb19_ := hall 19 (by kernel_rfl)
       have hb20_ := hall 20 (by kernel_rfl)
       have hb21_ := hall 21 (by kernel_rfl)
       have hb22_ := hall 22 (by kernel_rfl)
       have hb23_ := hall 23 (by kernel_rfl)
       have hb24_ := hall 24 (by kernel_rfl)
       have hb25_ := hall 25 (by kernel_rfl)
       have hb26_ := hall 26 (by kernel_rfl)
       have hb27_ := hall 27 (by kernel_rfl)
       have hb28_ := hall 28 (by kernel_rfl)
       have hb29_ := hall 29 (by kernel_rfl)
       have hb30_ := hall 30 (by kernel_rfl)
       have hb31_ := hall 31 (by kernel_rfl)
       subst ha
       obtain rfl := QX28_ hb28_
       simp only [putSel, hb0_, hb1_, hb2_, hb3_, hb4_, hb5_, hb6_, hb7_, hb8_, hb9_, hb10_, hb11_, hb12_, hb13_, hb14_, hb15_, hb16_, hb17_, hb18_, hb19_, hb20_, hb21_, hb22_, hb23_, hb24_, hb25_, hb26_, hb27_, hb28_, hb29_, hb30_, hb31_, if_true, Act.put, List.setIfInBounds_toArray, List.set_cons_zero, List.set_cons_succ]
       have HB := aM_ QHB
       clear QHB
       have TB := aM_ QTB
       clear QTB
       have EB := aM_ (QEB hb28_)
       clear QEB
       clear hall hb0_ hb1_ hb2_ hb3_ hb4_ hb5_ hb6_ hb7_ hb8_ hb9_ hb10_ hb11_ hb12_ hb13_ hb14_ hb15_ hb16_ hb17_ hb18_ hb19_ hb20_ hb21_ hb22_ hb23_ hb24_ hb25_ hb26_ hb27_ hb28_ hb29_ hb30_ hb31_
       have HB5 := lH_ (bthen' HB2.out HB.out)
       have hw2 : wv = true ∨ wv = false := by cases wv <;> simp
       have hkl := HKL.out
       rcases hw2 with hw2 | hw2
       ·have HR := lH_ (HN.out _ HAA.out (by rw [decide_eq_true (by omega : 1 ≤ x), decide_eq_true (by omega : x ≤ 9), HLT.out, hwv, hw2]; rfl))
        subst hw2
        go_wp2_with fail
        exact ⟨⟨k + 1, by go_num, by omega, HR, HB5⟩, by simp [intOf]; omega⟩
       ·have HF : Hid (ancB l ⟨ha, hb, hc⟩ = false) := lH_ (by rw [HE.out, hwv, hw2, Bool.and_false]; rfl)
        subst hw2
        go_wp2_with fail
        go_ret
        exact ⟨ret_bool HF.out.symm, bthen' HX.out HB5.out⟩
     ·have e3 : decide (0 < k) = true := decide_eq_true (by omega)
      have e3' : decide (0 < (k : Int)) = true := decide_eq_true (by omega)
      obtain ⟨ad2, c0, c1, c2, had2, hK, p0, p1, p2⟩ := el3 (d := kI3) rfl (Kd.C_below HC.out (bthen' HX.out HB2.out)) zI3 j (by omega)
      cases had2
      have hk' := kI3_open hK
      simp only [List.cons.injEq, and_true] at hk'
      obtain ⟨rfl, rfl, rfl⟩ := hk'
      clear p1 p2 hK
      generalize (l.getD j zI3).a = pv at *
      have p0d : w2.drew.cell? (ad.add (j * 3)) = some (.int .i64 pv) := p0
      have e4 : (k : Int) - 1 = (j : Int) := by omega
      have e6 : IntKind.i64.wrap (j : Int) = (j : Int) := IntWalk.i64_in _ (by omega)
      have b2 : (0 : Int) ≤ (j : Int) := by omega
      have b3 : (j : Int) < (l.length : Int) := by omega
      by_cases h3 : x ≤ pv
      ·have e5 : decide (x ≤ pv) = true := decide_eq_true h3
       have HF : Hid (ancB l ⟨ha, hb, hc⟩ = false) := lH_ (by rw [HE.out]; rw [decide_eq_false (by rw [hlj]; omega : ¬ lastC l k < x), Bool.and_false]; rfl)
       clear h3 hkj hlj p0d
       have t0a : w2.cell? ⟨g6, 0, none⟩ = some (.int .i64 x) := t0
       clear HAA HN HA HH HC t0 t1 t2
       go_quiet (fail)
       have HB3 := lH_ (bdrewN HB2.out nq)
       generalize w2.drewN nq = w3 at *
       go_wp2_with fail
       go_ret
       exact ⟨ret_bool HF.out.symm, bthen' HX.out HB3.out⟩
      ·have e5 : decide (x ≤ pv) = false := decide_eq_false h3
       have HLT : Hid (decide (lastC l k < x) = true) := lH_ (decide_eq_true (by rw [hlj]; omega))
       clear h3 hlj p0d
       obtain ⟨wv, hwv⟩ : ∃ v, wi2 128 y z = v := ⟨_, rfl⟩
       have WV := aM_ hwv
       have Y1 := aM_ e1
       have Y2 := aM_ e2
       have Y3 := aM_ e3
       have Y3' := aM_ e3'
       have Y4 := aM_ (show IntKind.i64.wrap ((k : Int) - 1) = (j : Int) by rw [e4]; exact IntWalk.i64_in _ (by omega))
       have Y8 := aM_ (show IntKind.i64.wrap (j : Int) = (j : Int) from IntWalk.i64_in _ (by omega))
       have Y5 := aM_ b2
       have Y6 := aM_ b3
       have Y7 := aM_ e5
       have PV := aM_ p0
       have HKL := lH_ (show k < l.length ∧ 1 ≤ x ∧ x ≤ 9 from ⟨hlt, by omega, by omega⟩)
       clear e1 e2 e3 e3' t0 t1 t2 b0 b1 hk hlt h1 h2 e4 e5 e6 b2 b3 p0 hkj
       refine start_ (n := 32) (S := fun w' => True) (ds := []) #[false, false, false, false, false, false, false, false, false, false, false, false, false, false, false, false, false, false, false, false, false, false, false, false, false, false, false, false, false, false, false, false] (by kernel_rfl) rfl rfl trivial (fun hHeld => ?_)
       refine with_tabW oAnc.tab4 oAnc.bits4 (fun HT_ HW_ => ?_)
       have HB : Aside0 (Below w2.heap.size w2 w2.drew) := ⟨bdrew (Below.refl _ _)⟩
       have TB : Aside0 (Blk w2.drew g6 #[.int .i64 x, .int .i64 y, .int .i64 z] 25) := ⟨T.out.drew⟩
       generalize hwd : w2.drew = w1' at *
       clear hwd
       refine inv_at [0, 1, 2, 3, 4, 5, 6, 7, 8, 9, 10, 11, 12, 13, 14, 15, 16, 17, 18, 19, 20, 21, 22, 23, 24, 25, 26, 27, 28, 29, 30, 31] (fun a0_ b a w' => ∃ (ge : Nat) (m28_ : Value), a = putSel a0_ b [(0, 14, .pointer (some ⟨g6, 0, none⟩)), (1, 15, .int .i64 x), (2, 16, .bool false), (3, 17, .bool false), (4, 18, .pointer (some ⟨g6, 0, none⟩)), (5, 19, .int .i64 x), (6, 20, .bool false), (7, 21, .bool false), (8, 22, .bool false), (9, 23, .int .i64 k), (10, 24, .bool true), (11, 25, .bool true), (12, 26, .slice (some ad) l.length c), (13, 27, .int .i64 k), (14, 28, .int .i64 j), (15, 29, .pointer (some (ad.add (j * 3)))), (16, 30, .pointer (some (ad.add (j * 3)))), (17, 31, .int .i64 pv), (18, 32, .pointer (some ⟨g6, 0, none⟩)), (19, 33, .int .i64 x), (20, 34, .bool false), (21, 35, .bool false), (22, 36, .bool false), (23, 37, .bool false), (24, 38, .pointer (some ⟨g6, 1, none⟩)), (25, 39, .int .i64 y), (26, 40, .pointer (some ⟨g6, 2, none⟩)), (27, 41, .int .i64 z), (28, 42, m28_), (29, 43, .bool wv), (30, 44, .bool (!wv)), (31, 45, .bool (!wv))] ∧ (Below w2.heap.size w2 w') ∧ (Blk w' g6 #[.int .i64 x, .int .i64 y, .int .i64 z] 25) ∧ (b 28 = true → Blk w' ge #[.int .i64 y, .int .i64 z] 3) ∧ (b 28 = true → (m28_ : Value) = .slice (some ⟨ge, 0, none⟩) 2 2)) HT_.out HW_.out (by kernel_rfl) (by kernel_rfl) ?_ ?_ ?_
       ·exact ⟨0, .bool false, by simp only [putSel, Bool.false_eq_true, if_false], HB.out, TB.out, fun h_ => absurd h_ (by decide), fun h_ => absurd h_ (by decide)⟩
       ·skip
        clear HB TB
        refine steps_cons ?_ ?_
        ·rintro b a w' ⟨ge, m28_, ha, QHB, QTB, QEB, QX28_⟩ hb_ hon hoff
         refine ⟨_, rfl, fun K hK => ?_⟩
         have e6 : a.tmps[6]? = some (.pointer (some ⟨g6, 0, none⟩)) := by rw [ha]; exact (putSel_off rfl).trans rfl
         replace ha := aM_ ha
         have HB := aM_ QHB
         have TB := aM_ QTB
         refine value_ (w1 := w') (v := .pointer (some ⟨g6, 0, none⟩)) (by rfl) rfl ?_ ?_
         ·go_simp
          (try simp only [i64_w])
          try rfl
         refine hK.out _ _ ⟨ge, m28_, (by rw [ha.out]; exact putSel_upk 0 hb_ rfl rfl rfl), QHB, QTB, dD_ (hoff 28 rfl), dD_ (hoff 28 rfl)⟩
        refine steps_cons ?_ ?_
        ·rintro b a w' ⟨ge, m28_, ha, QHB, QTB, QEB, QX28_⟩ hb_ hon hoff
         refine ⟨_, rfl, fun K hK => ?_⟩
         have e14 : a.tmps[14]? = some (.pointer (some ⟨g6, 0, none⟩)) := by rw [ha]; exact putSel_on (e := (0, 14, .pointer (some ⟨g6, 0, none⟩))) 0 rfl rfl (hon 0 rfl) rfl
         replace ha := aM_ ha
         have HB := aM_ QHB
         have TB := aM_ QTB
         have z0 : w'.cell? ⟨g6, 0, none⟩ = some (.int .i64 x) := TB.out.cell 0
         refine value_ (w1 := w') (v := .int .i64 x) (by rfl) rfl ?_ ?_
         ·go_simp
          (try simp only [i64_w])
          try rfl
         refine hK.out _ _ ⟨ge, m28_, (by rw [ha.out]; exact putSel_upk 1 hb_ rfl rfl rfl), QHB, QTB, dD_ (hoff 28 rfl), dD_ (hoff 28 rfl)⟩
        refine steps_cons ?_ ?_
        ·rintro b a w' ⟨ge, m28_, ha, QHB, QTB, QEB, QX28_⟩ hb_ hon hoff
         refine ⟨_, rfl, fun K hK => ?_⟩
         have e15 : a.tmps[15]? = some (.int .i64 x) := by rw [ha]; exact putSel_on (e := (1, 15, .int .i64 x)) 1 rfl rfl (hon 1 rfl) rfl
         replace ha := aM_ ha
         have HB := aM_ QHB
         have TB := aM_ QTB
         have y0 := Y1.out
         refine value_ (w1 := w') (v := .bool false) (by rfl) rfl ?_ ?_
         ·go_simp
          (try simp only [i64_w])
          try rfl
         refine hK.out _ _ ⟨ge, m28_, (by rw [ha.out]; exact putSel_upk 2 hb_ rfl rfl rfl), QHB, QTB, dD_ (hoff 28 rfl), dD_ (hoff 28 rfl)⟩
        refine steps_cons ?_ ?_
        ·rintro b a w' ⟨ge, m28_, ha, QHB, QTB, QEB, QX28_⟩ hb_ hon hoff
         refine ⟨_, rfl, fun K hK => ?_⟩
         have e16 : a.tmps[16]? = some (.bool false) := by rw [ha]; exact putSel_on (e := (2, 16, .bool false)) 2 rfl rfl (hon 2 rfl) rfl
         replace ha := aM_ ha
         have HB := aM_ QHB
         have TB := aM_ QTB
         refine value_ (w1 := w') (v := .bool false) (by rfl) rfl ?_ ?_
         ·go_simp
          (try simp only [i64_w])
          try rfl
         refine hK.out _ _ ⟨ge, m28_, (by rw [ha.out]; exact putSel_upk 3 hb_ rfl rfl rfl), QHB, QTB, dD_ (hoff 28 rfl), dD_ (hoff 28 rfl)⟩
        refine steps_cons ?_ ?_
        ·rintro b a w' ⟨ge, m28_, ha, QHB, QTB, QEB, QX28_⟩ hb_ hon hoff
         refine ⟨_, rfl, fun K hK => ?_⟩
         have e6 : a.tmps[6]? = some (.pointer (some ⟨g6, 0, none⟩)) := by rw [ha]; exact (putSel_off rfl).trans rfl
         have e17 : a.tmps[17]? = some (.bool false) := by rw [ha]; exact putSel_on (e := (3, 17, .bool false)) 3 rfl rfl (hon 3 rfl) rfl
         replace ha := aM_ ha
         have HB := aM_ QHB
         have TB := aM_ QTB
         refine value_ (w1 := w') (v := .pointer (some ⟨g6, 0, none⟩)) (wanted_on rfl rfl rfl (e17.trans (by first | rfl | (simp [*]; done)))) rfl ?_ ?_
         ·go_simp
          (try simp only [i64_w])
          try rfl
         refine hK.out _ _ ⟨ge, m28_, (by rw [ha.out]; exact putSel_upk 4 hb_ rfl rfl rfl), QHB, QTB, dD_ (hoff 28 rfl), dD_ (hoff 28 rfl)⟩
        refine steps_cons ?_ ?_
        ·rintro b a w' ⟨ge, m28_, ha, QHB, QTB, QEB, QX28_⟩ hb_ hon hoff
         refine ⟨_, rfl, fun K hK => ?_⟩
         have e18 : a.tmps[18]? = some (.pointer (some ⟨g6, 0, none⟩)) := by rw [ha]; exact putSel_on (e := (4, 18, .pointer (some ⟨g6, 0, none⟩))) 4 rfl rfl (hon 4 rfl) rfl
         have e17 : a.tmps[17]? = some (.bool false) := by rw [ha]; exact putSel_on (e := (3, 17, .bool false)) 3 rfl rfl (hon 3 rfl) rfl
         replace ha := aM_ ha
         have HB := aM_ QHB
         have TB := aM_ QTB
         have z0 : w'.cell? ⟨g6, 0, none⟩ = some (.int .i64 x) := TB.out.cell 0
         refine value_ (w1 := w') (v := .int .i64 x) (wanted_on rfl rfl rfl (e17.trans (by first | rfl | (simp [*]; done)))) rfl ?_ ?_
         ·go_simp
          (try simp only [i64_w])
          try rfl
         refine hK.out _ _ ⟨ge, m28_, (by rw [ha.out]; exact putSel_upk 5 hb_ rfl rfl rfl), QHB, QTB, dD_ (hoff 28 rfl), dD_ (hoff 28 rfl)⟩
        refine steps_cons ?_ ?_
        ·rintro b a w' ⟨ge, m28_, ha, QHB, QTB, QEB, QX28_⟩ hb_ hon hoff
         refine ⟨_, rfl, fun K hK => ?_⟩
         have e19 : a.tmps[19]? = some (.int .i64 x) := by rw [ha]; exact putSel_on (e := (5, 19, .int .i64 x)) 5 rfl rfl (hon 5 rfl) rfl
         have e17 : a.tmps[17]? = some (.bool false) := by rw [ha]; exact putSel_on (e := (3, 17, .bool false)) 3 rfl rfl (hon 3 rfl) rfl
         replace ha := aM_ ha
         have HB := aM_ QHB
         have TB := aM_ QTB
         have y0 := Y2.out
         refine value_ (w1 := w') (v := .bool false) (wanted_on rfl rfl rfl (e17.trans (by first | rfl | (simp [*]; done)))) rfl ?_ ?_
         ·go_simp
          (try simp only [i64_w])
          try rfl
         refine hK.out _ _ ⟨ge, m28_, (by rw [ha.out]; exact putSel_upk 6 hb_ rfl rfl rfl), QHB, QTB, dD_ (hoff 28 rfl), dD_ (hoff 28 rfl)⟩
        refine steps_cons ?_ ?_
        ·rintro b a w' ⟨ge, m28_, ha, QHB, QTB, QEB, QX28_⟩ hb_ hon hoff
         refine ⟨_, rfl, fun K hK => ?_⟩
         have e17 : a.tmps[17]? = some (.bool false) := by rw [ha]; exact putSel_on (e := (3, 17, .bool false)) 3 rfl rfl (hon 3 rfl) rfl
         have e20 : a.tmps[20]? = some (.bool false) := by rw [ha]; exact putSel_on (e := (6, 20, .bool false)) 6 rfl rfl (hon 6 rfl) rfl
         replace ha := aM_ ha
         have HB := aM_ QHB
         have TB := aM_ QTB
         refine value_ (w1 := w') (v := .bool false) (by rfl) rfl ?_ ?_
         ·go_simp
          (try simp only [i64_w])
          try rfl
         refine hK.out _ _ ⟨ge, m28_, (by rw [ha.out]; exact putSel_upk 7 hb_ rfl rfl rfl), QHB, QTB, dD_ (hoff 28 rfl), dD_ (hoff 28 rfl)⟩
        refine steps_cons ?_ ?_
        ·rintro b a w' ⟨ge, m28_, ha, QHB, QTB, QEB, QX28_⟩ hb_ hon hoff
         refine ⟨_, rfl, fun K hK => ?_⟩
         have e21 : a.tmps[21]? = some (.bool false) := by rw [ha]; exact putSel_on (e := (7, 21, .bool false)) 7 rfl rfl (hon 7 rfl) rfl
         replace ha := aM_ ha
         have HB := aM_ QHB
         have TB := aM_ QTB
         refine value_ (w1 := w') (v := .bool false) (by rfl) rfl ?_ ?_
         ·go_simp
          (try simp only [i64_w])
          try rfl
         refine hK.out _ _ ⟨ge, m28_, (by rw [ha.out]; exact putSel_upk 8 hb_ rfl rfl rfl), QHB, QTB, dD_ (hoff 28 rfl), dD_ (hoff 28 rfl)⟩
        refine steps_cons ?_ ?_
        ·rintro b a w' ⟨ge, m28_, ha, QHB, QTB, QEB, QX28_⟩ hb_ hon hoff
         refine ⟨_, rfl, fun K hK => ?_⟩
         have e5 : a.tmps[5]? = some (.int .i64 k) := by rw [ha]; exact (putSel_off rfl).trans rfl
         have e22 : a.tmps[22]? = some (.bool false) := by rw [ha]; exact putSel_on (e := (8, 22, .bool false)) 8 rfl rfl (hon 8 rfl) rfl
         replace ha := aM_ ha
         have HB := aM_ QHB
         have TB := aM_ QTB
         refine value_ (w1 := w') (v := .int .i64 k) (wanted_on rfl rfl rfl (e22.trans (by first | rfl | (simp [*]; done)))) rfl ?_ ?_
         ·go_simp
          (try simp only [i64_w])
          try rfl
         refine hK.out _ _ ⟨ge, m28_, (by rw [ha.out]; exact putSel_upk 9 hb_ rfl rfl rfl), QHB, QTB, dD_ (hoff 28 rfl), dD_ (hoff 28 rfl)⟩
        refine steps_cons ?_ ?_
        ·rintro b a w' ⟨ge, m28_, ha, QHB, QTB, QEB, QX28_⟩ hb_ hon hoff
         refine ⟨_, rfl, fun K hK => ?_⟩
         have e23 : a.tmps[23]? = some (.int .i64 k) := by rw [ha]; exact putSel_on (e := (9, 23, .int .i64 k)) 9 rfl rfl (hon 9 rfl) rfl
         have e22 : a.tmps[22]? = some (.bool false) := by rw [ha]; exact putSel_on (e := (8, 22, .bool false)) 8 rfl rfl (hon 8 rfl) rfl
         replace ha := aM_ ha
         have HB := aM_ QHB
         have TB := aM_ QTB
         have y0 := Y3.out
         have y1 := Y3'.out
         refine value_ (w1 := w') (v := .bool true) (wanted_on rfl rfl rfl (e22.trans (by first | rfl | (simp [*]; done)))) rfl ?_ ?_
         ·go_simp
          (try simp only [i64_w])
          try rfl
         refine hK.out _ _ ⟨ge, m28_, (by rw [ha.out]; exact putSel_upk 10 hb_ rfl rfl rfl), QHB, QTB, dD_ (hoff 28 rfl), dD_ (hoff 28 rfl)⟩
        refine steps_cons ?_ ?_
        ·rintro b a w' ⟨ge, m28_, ha, QHB, QTB, QEB, QX28_⟩ hb_ hon hoff
         refine ⟨_, rfl, fun K hK => ?_⟩
         have e24 : a.tmps[24]? = some (.bool true) := by rw [ha]; exact putSel_on (e := (10, 24, .bool true)) 10 rfl rfl (hon 10 rfl) rfl
         have e22 : a.tmps[22]? = some (.bool false) := by rw [ha]; exact putSel_on (e := (8, 22, .bool false)) 8 rfl rfl (hon 8 rfl) rfl
         replace ha := aM_ ha
         have HB := aM_ QHB
         have TB := aM_ QTB
         refine value_ (w1 := w') (v := .bool true) (wanted_on rfl rfl rfl (e22.trans (by first | rfl | (simp [*]; done)))) rfl ?_ ?_
         ·go_simp
          (try simp only [i64_w])
          try rfl
         refine hK.out _ _ ⟨ge, m28_, (by rw [ha.out]; exact putSel_upk 11 hb_ rfl rfl rfl), QHB, QTB, dD_ (hoff 28 rfl), dD_ (hoff 28 rfl)⟩
        refine steps_cons ?_ ?_
        ·rintro b a w' ⟨ge, m28_, ha, QHB, QTB, QEB, QX28_⟩ hb_ hon hoff
         refine ⟨_, rfl, fun K hK => ?_⟩
         have e0 : a.tmps[0]? = some (.slice (some ad) l.length c) := by rw [ha]; exact (putSel_off rfl).trans rfl
         have e25 : a.tmps[25]? = some (.bool true) := by rw [ha]; exact putSel_on (e := (11, 25, .bool true)) 11 rfl rfl (hon 11 rfl) rfl
         replace ha := aM_ ha
         have HB := aM_ QHB
         have TB := aM_ QTB
         refine value_ (w1 := w') (v := .slice (some ad) l.length c) (wanted_on rfl rfl rfl (e25.trans (by first | rfl | (simp [*]; done)))) rfl ?_ ?_
         ·go_simp
          (try simp only [i64_w])
          try rfl
         refine hK.out _ _ ⟨ge, m28_, (by rw [ha.out]; exact putSel_upk 12 hb_ rfl rfl rfl), QHB, QTB, dD_ (hoff 28 rfl), dD_ (hoff 28 rfl)⟩
        refine steps_cons ?_ ?_
        ·rintro b a w' ⟨ge, m28_, ha, QHB, QTB, QEB, QX28_⟩ hb_ hon hoff
         refine ⟨_, rfl, fun K hK => ?_⟩
         have e5 : a.tmps[5]? = some (.int .i64 k) := by rw [ha]; exact (putSel_off rfl).trans rfl
         have e25 : a.tmps[25]? = some (.bool true) := by rw [ha]; exact putSel_on (e := (11, 25, .bool true)) 11 rfl rfl (hon 11 rfl) rfl
         replace ha := aM_ ha
         have HB := aM_ QHB
         have TB := aM_ QTB
         refine value_ (w1 := w') (v := .int .i64 k) (wanted_on rfl rfl rfl (e25.trans (by first | rfl | (simp [*]; done)))) rfl ?_ ?_
         ·go_simp
          (try simp only [i64_w])
          try rfl
         refine hK.out _ _ ⟨ge, m28_, (by rw [ha.out]; exact putSel_upk 13 hb_ rfl rfl rfl), QHB, QTB, dD_ (hoff 28 rfl), dD_ (hoff 28 rfl)⟩
        refine steps_cons ?_ ?_
        ·rintro b a w' ⟨ge, m28_, ha, QHB, QTB, QEB, QX28_⟩ hb_ hon hoff
         refine ⟨_, rfl, fun K hK => ?_⟩
         have e27 : a.tmps[27]? = some (.int .i64 k) := by rw [ha]; exact putSel_on (e := (13, 27, .int .i64 k)) 13 rfl rfl (hon 13 rfl) rfl
         have e25 : a.tmps[25]? = some (.bool true) := by rw [ha]; exact putSel_on (e := (11, 25, .bool true)) 11 rfl rfl (hon 11 rfl) rfl
         replace ha := aM_ ha
         have HB := aM_ QHB
         have TB := aM_ QTB
         have y0 := Y4.out
         have y1 := Y8.out
         refine value_ (w1 := w') (v := .int .i64 j) (wanted_on rfl rfl rfl (e25.trans (by first | rfl | (simp [*]; done)))) rfl ?_ ?_
         ·go_simp
          (try simp only [i64_w])
          try rfl
         refine hK.out _ _ ⟨ge, m28_, (by rw [ha.out]; exact putSel_upk 14 hb_ rfl rfl rfl), QHB, QTB, dD_ (hoff 28 rfl), dD_ (hoff 28 rfl)⟩
        refine steps_cons ?_ ?_
        ·rintro b a w' ⟨ge, m28_, ha, QHB, QTB, QEB, QX28_⟩ hb_ hon hoff
         refine ⟨_, rfl, fun K hK => ?_⟩
         have e26 : a.tmps[26]? = some (.slice (some ad) l.length c) := by rw [ha]; exact putSel_on (e := (12, 26, .slice (some ad) l.length c)) 12 rfl rfl (hon 12 rfl) rfl
         have e28 : a.tmps[28]? = some (.int .i64 j) := by rw [ha]; exact putSel_on (e := (14, 28, .int .i64 j)) 14 rfl rfl (hon 14 rfl) rfl
         have e25 : a.tmps[25]? = some (.bool true) := by rw [ha]; exact putSel_on (e := (11, 25, .bool true)) 11 rfl rfl (hon 11 rfl) rfl
         replace ha := aM_ ha
         have HB := aM_ QHB
         have TB := aM_ QTB
         have y0 := Y5.out
         have y1 := Y6.out
         refine value_ (w1 := w') (v := .pointer (some (ad.add (j * 3)))) (wanted_on rfl rfl rfl (e25.trans (by first | rfl | (simp [*]; done)))) rfl ?_ ?_
         ·go_simp
          (try simp only [i64_w])
          try rfl
         refine hK.out _ _ ⟨ge, m28_, (by rw [ha.out]; exact putSel_upk 15 hb_ rfl rfl rfl), QHB, QTB, dD_ (hoff 28 rfl), dD_ (hoff 28 rfl)⟩
        refine steps_cons ?_ ?_
        ·rintro b a w' ⟨ge, m28_, ha, QHB, QTB, QEB, QX28_⟩ hb_ hon hoff
         refine ⟨_, rfl, fun K hK => ?_⟩
         have e29 : a.tmps[29]? = some (.pointer (some (ad.add (j * 3)))) := by rw [ha]; exact putSel_on (e := (15, 29, .pointer (some (ad.add (j * 3))))) 15 rfl rfl (hon 15 rfl) rfl
         have e25 : a.tmps[25]? = some (.bool true) := by rw [ha]; exact putSel_on (e := (11, 25, .bool true)) 11 rfl rfl (hon 11 rfl) rfl
         replace ha := aM_ ha
         have HB := aM_ QHB
         have TB := aM_ QTB
         refine value_ (w1 := w') (v := .pointer (some (ad.add (j * 3)))) (wanted_on rfl rfl rfl (e25.trans (by first | rfl | (simp [*]; done)))) rfl ?_ ?_
         ·go_simp
          (try simp only [i64_w])
          try rfl
         refine hK.out _ _ ⟨ge, m28_, (by rw [ha.out]; exact putSel_upk 16 hb_ rfl rfl rfl), QHB, QTB, dD_ (hoff 28 rfl), dD_ (hoff 28 rfl)⟩
        refine steps_cons ?_ ?_
        ·rintro b a w' ⟨ge, m28_, ha, QHB, QTB, QEB, QX28_⟩ hb_ hon hoff
         refine ⟨_, rfl, fun K hK => ?_⟩
         have e30 : a.tmps[30]? = some (.pointer (some (ad.add (j * 3)))) := by rw [ha]; exact putSel_on (e := (16, 30, .pointer (some (ad.add (j * 3))))) 16 rfl rfl (hon 16 rfl) rfl
         have e25 : a.tmps[25]? = some (.bool true) := by rw [ha]; exact putSel_on (e := (11, 25, .bool true)) 11 rfl rfl (hon 11 rfl) rfl
         replace ha := aM_ ha
         have HB := aM_ QHB
         have TB := aM_ QTB
         have z0 : w'.cell? (ad.add (j * 3)) = some (.int .i64 pv) := pw_cell_below HB.out PV.out
         refine value_ (w1 := w') (v := .int .i64 pv) (wanted_on rfl rfl rfl (e25.trans (by first | rfl | (simp [*]; done)))) rfl ?_ ?_
         ·go_simp
          (try simp only [i64_w])
          try rfl
         refine hK.out _ _ ⟨ge, m28_, (by rw [ha.out]; exact putSel_upk 17 hb_ rfl rfl rfl), QHB, QTB, dD_ (hoff 28 rfl), dD_ (hoff 28 rfl)⟩
        refine steps_cons ?_ ?_
        ·rintro b a w' ⟨ge, m28_, ha, QHB, QTB, QEB, QX28_⟩ hb_ hon hoff
         refine ⟨_, rfl, fun K hK => ?_⟩
         have e6 : a.tmps[6]? = some (.pointer (some ⟨g6, 0, none⟩)) := by rw [ha]; exact (putSel_off rfl).trans rfl
         have e25 : a.tmps[25]? = some (.bool true) := by rw [ha]; exact putSel_on (e := (11, 25, .bool true)) 11 rfl rfl (hon 11 rfl) rfl
         replace ha := aM_ ha
         have HB := aM_ QHB
         have TB := aM_ QTB
         refine value_ (w1 := w') (v := .pointer (some ⟨g6, 0, none⟩)) (wanted_on rfl rfl rfl (e25.trans (by first | rfl | (simp [*]; done)))) rfl ?_ ?_
         ·go_simp
          (try simp only [i64_w])
          try rfl
         refine hK.out _ _ ⟨ge, m28_, (by rw [ha.out]; exact putSel_upk 18 hb_ rfl rfl rfl), QHB, QTB, dD_ (hoff 28 rfl), dD_ (hoff 28 rfl)⟩
        refine steps_cons ?_ ?_
        ·rintro b a w' ⟨ge, m28_, ha, QHB, QTB, QEB, QX28_⟩ hb_ hon hoff
         refine ⟨_, rfl, fun K hK => ?_⟩
         have e32 : a.tmps[32]? = some (.pointer (some ⟨g6, 0, none⟩)) := by rw [ha]; exact putSel_on (e := (18, 32, .pointer (some ⟨g6, 0, none⟩))) 18 rfl rfl (hon 18 rfl) rfl
         have e25 : a.tmps[25]? = some (.bool true) := by rw [ha]; exact putSel_on (e := (11, 25, .bool true)) 11 rfl rfl (hon 11 rfl) rfl
         replace ha := aM_ ha
         have HB := aM_ QHB
         have TB := aM_ QTB
         have z0 : w'.cell? ⟨g6, 0, none⟩ = some (.int .i64 x) := TB.out.cell 0
         refine value_ (w1 := w') (v := .int .i64 x) (wanted_on rfl rfl rfl (e25.trans (by first | rfl | (simp [*]; done)))) rfl ?_ ?_
         ·go_simp
          (try simp only [i64_w])
          try rfl
         refine hK.out _ _ ⟨ge, m28_, (by rw [ha.out]; exact putSel_upk 19 hb_ rfl rfl rfl), QHB, QTB, dD_ (hoff 28 rfl), dD_ (hoff 28 rfl)⟩
        refine steps_cons ?_ ?_
        ·rintro b a w' ⟨ge, m28_, ha, QHB, QTB, QEB, QX28_⟩ hb_ hon hoff
         refine ⟨_, rfl, fun K hK => ?_⟩
         have e31 : a.tmps[31]? = some (.int .i64 pv) := by rw [ha]; exact putSel_on (e := (17, 31, .int .i64 pv)) 17 rfl rfl (hon 17 rfl) rfl
         have e33 : a.tmps[33]? = some (.int .i64 x) := by rw [ha]; exact putSel_on (e := (19, 33, .int .i64 x)) 19 rfl rfl (hon 19 rfl) rfl
         have e25 : a.tmps[25]? = some (.bool true) := by rw [ha]; exact putSel_on (e := (11, 25, .bool true)) 11 rfl rfl (hon 11 rfl) rfl
         replace ha := aM_ ha
         have HB := aM_ QHB
         have TB := aM_ QTB
         have y0 := Y7.out
         refine value_ (w1 := w') (v := .bool false) (wanted_on rfl rfl rfl (e25.trans (by first | rfl | (simp [*]; done)))) rfl ?_ ?_
         ·go_simp
          (try simp only [i64_w])
          try rfl
         refine hK.out _ _ ⟨ge, m28_, (by rw [ha.out]; exact putSel_upk 20 hb_ rfl rfl rfl), QHB, QTB, dD_ (hoff 28 rfl), dD_ (hoff 28 rfl)⟩
        refine steps_cons ?_ ?_
        ·rintro b a w' ⟨ge, m28_, ha, QHB, QTB, QEB, QX28_⟩ hb_ hon hoff
         refine ⟨_, rfl, fun K hK => ?_⟩
         have e25 : a.tmps[25]? = some (.bool true) := by rw [ha]; exact putSel_on (e := (11, 25, .bool true)) 11 rfl rfl (hon 11 rfl) rfl
         have e34 : a.tmps[34]? = some (.bool false) := by rw [ha]; exact putSel_on (e := (20, 34, .bool false)) 20 rfl rfl (hon 20 rfl) rfl
         have e22 : a.tmps[22]? = some (.bool false) := by rw [ha]; exact putSel_on (e := (8, 22, .bool false)) 8 rfl rfl (hon 8 rfl) rfl
         replace ha := aM_ ha
         have HB := aM_ QHB
         have TB := aM_ QTB
         refine value_ (w1 := w') (v := .bool false) (wanted_on rfl rfl rfl (e22.trans (by first | rfl | (simp [*]; done)))) rfl ?_ ?_
         ·go_simp
          (try simp only [i64_w])
          try rfl
         refine hK.out _ _ ⟨ge, m28_, (by rw [ha.out]; exact putSel_upk 21 hb_ rfl rfl rfl), QHB, QTB, dD_ (hoff 28 rfl), dD_ (hoff 28 rfl)⟩
        refine steps_cons ?_ ?_
        ·rintro b a w' ⟨ge, m28_, ha, QHB, QTB, QEB, QX28_⟩ hb_ hon hoff
         refine ⟨_, rfl, fun K hK => ?_⟩
         have e22 : a.tmps[22]? = some (.bool false) := by rw [ha]; exact putSel_on (e := (8, 22, .bool false)) 8 rfl rfl (hon 8 rfl) rfl
         have e35 : a.tmps[35]? = some (.bool false) := by rw [ha]; exact putSel_on (e := (21, 35, .bool false)) 21 rfl rfl (hon 21 rfl) rfl
         replace ha := aM_ ha
         have HB := aM_ QHB
         have TB := aM_ QTB
         refine value_ (w1 := w') (v := .bool false) (by rfl) rfl ?_ ?_
         ·go_simp
          (try simp only [i64_w])
          try rfl
         refine hK.out _ _ ⟨ge, m28_, (by rw [ha.out]; exact putSel_upk 22 hb_ rfl rfl rfl), QHB, QTB, dD_ (hoff 28 rfl), dD_ (hoff 28 rfl)⟩
        refine steps_cons ?_ ?_
        ·rintro b a w' ⟨ge, m28_, ha, QHB, QTB, QEB, QX28_⟩ hb_ hon hoff
         refine ⟨_, rfl, fun K hK => ?_⟩
         have e36 : a.tmps[36]? = some (.bool false) := by rw [ha]; exact putSel_on (e := (22, 36, .bool false)) 22 rfl rfl (hon 22 rfl) rfl
         replace ha := aM_ ha
         have HB := aM_ QHB
         have TB := aM_ QTB
         refine value_ (w1 := w') (v := .bool false) (by rfl) rfl ?_ ?_
         ·go_simp
          (try simp only [i64_w])
          try rfl
         refine hK.out _ _ ⟨ge, m28_, (by rw [ha.out]; exact putSel_upk 23 hb_ rfl rfl rfl), QHB, QTB, dD_ (hoff 28 rfl), dD_ (hoff 28 rfl)⟩
        refine steps_cons ?_ ?_
        ·rintro b a w' ⟨ge, m28_, ha, QHB, QTB, QEB, QX28_⟩ hb_ hon hoff
         refine ⟨_, rfl, fun K hK => ?_⟩
         have e6 : a.tmps[6]? = some (.pointer (some ⟨g6, 0, none⟩)) := by rw [ha]; exact (putSel_off rfl).trans rfl
         have e37 : a.tmps[37]? = some (.bool false) := by rw [ha]; exact putSel_on (e := (23, 37, .bool false)) 23 rfl rfl (hon 23 rfl) rfl
         replace ha := aM_ ha
         have HB := aM_ QHB
         have TB := aM_ QTB
         refine value_ (w1 := w') (v := .pointer (some ⟨g6, 1, none⟩)) (wanted_on rfl rfl rfl (e37.trans (by first | rfl | (simp [*]; done)))) rfl ?_ ?_
         ·go_simp
          (try simp only [i64_w])
          try rfl
         refine hK.out _ _ ⟨ge, m28_, (by rw [ha.out]; exact putSel_upk 24 hb_ rfl rfl rfl), QHB, QTB, dD_ (hoff 28 rfl), dD_ (hoff 28 rfl)⟩
        refine steps_cons ?_ ?_
        ·rintro b a w' ⟨ge, m28_, ha, QHB, QTB, QEB, QX28_⟩ hb_ hon hoff
         refine ⟨_, rfl, fun K hK => ?_⟩
         have e38 : a.tmps[38]? = some (.pointer (some ⟨g6, 1, none⟩)) := by rw [ha]; exact putSel_on (e := (24, 38, .pointer (some ⟨g6, 1, none⟩))) 24 rfl rfl (hon 24 rfl) rfl
         have e37 : a.tmps[37]? = some (.bool false) := by rw [ha]; exact putSel_on (e := (23, 37, .bool false)) 23 rfl rfl (hon 23 rfl) rfl
         replace ha := aM_ ha
         have HB := aM_ QHB
         have TB := aM_ QTB
         have z1 : w'.cell? ⟨g6, 1, none⟩ = some (.int .i64 y) := TB.out.cell 1
         refine value_ (w1 := w') (v := .int .i64 y) (wanted_on rfl rfl rfl (e37.trans (by first | rfl | (simp [*]; done)))) rfl ?_ ?_
         ·go_simp
          (try simp only [i64_w])
          try rfl
         refine hK.out _ _ ⟨ge, m28_, (by rw [ha.out]; exact putSel_upk 25 hb_ rfl rfl rfl), QHB, QTB, dD_ (hoff 28 rfl), dD_ (hoff 28 rfl)⟩
        refine steps_cons ?_ ?_
        ·rintro b a w' ⟨ge, m28_, ha, QHB, QTB, QEB, QX28_⟩ hb_ hon hoff
         refine ⟨_, rfl, fun K hK => ?_⟩
         have e6 : a.tmps[6]? = some (.pointer (some ⟨g6, 0, none⟩)) := by rw [ha]; exact (putSel_off rfl).trans rfl
         have e37 : a.tmps[37]? = some (.bool false) := by rw [ha]; exact putSel_on (e := (23, 37, .bool false)) 23 rfl rfl (hon 23 rfl) rfl
         replace ha := aM_ ha
         have HB := aM_ QHB
         have TB := aM_ QTB
         refine value_ (w1 := w') (v := .pointer (some ⟨g6, 2, none⟩)) (wanted_on rfl rfl rfl (e37.trans (by first | rfl | (simp [*]; done)))) rfl ?_ ?_
         ·go_simp
          (try simp only [i64_w])
          try rfl
         refine hK.out _ _ ⟨ge, m28_, (by rw [ha.out]; exact putSel_upk 26 hb_ rfl rfl rfl), QHB, QTB, dD_ (hoff 28 rfl), dD_ (hoff 28 rfl)⟩
        refine steps_cons ?_ ?_
        ·rintro b a w' ⟨ge, m28_, ha, QHB, QTB, QEB, QX28_⟩ hb_ hon hoff
         refine ⟨_, rfl, fun K hK => ?_⟩
         have e40 : a.tmps[40]? = some (.pointer (some ⟨g6, 2, none⟩)) := by rw [ha]; exact putSel_on (e := (26, 40, .pointer (some ⟨g6, 2, none⟩))) 26 rfl rfl (hon 26 rfl) rfl
         have e37 : a.tmps[37]? = some (.bool false) := by rw [ha]; exact putSel_on (e := (23, 37, .bool false)) 23 rfl rfl (hon 23 rfl) rfl
         replace ha := aM_ ha
         have HB := aM_ QHB
         have TB := aM_ QTB
         have z2 : w'.cell? ⟨g6, 2, none⟩ = some (.int .i64 z) := TB.out.cell 2
         refine value_ (w1 := w') (v := .int .i64 z) (wanted_on rfl rfl rfl (e37.trans (by first | rfl | (simp [*]; done)))) rfl ?_ ?_
         ·go_simp
          (try simp only [i64_w])
          try rfl
         refine hK.out _ _ ⟨ge, m28_, (by rw [ha.out]; exact putSel_upk 27 hb_ rfl rfl rfl), QHB, QTB, dD_ (hoff 28 rfl), dD_ (hoff 28 rfl)⟩
        refine steps_cons ?_ ?_
        ·rintro b a w' ⟨ge, m28_, ha, QHB, QTB, QEB, QX28_⟩ hb_ hon hoff
         refine ⟨_, rfl, fun K hK => ?_⟩
         have e39 : a.tmps[39]? = some (.int .i64 y) := by rw [ha]; exact putSel_on (e := (25, 39, .int .i64 y)) 25 rfl rfl (hon 25 rfl) rfl
         have e41 : a.tmps[41]? = some (.int .i64 z) := by rw [ha]; exact putSel_on (e := (27, 41, .int .i64 z)) 27 rfl rfl (hon 27 rfl) rfl
         have e37 : a.tmps[37]? = some (.bool false) := by rw [ha]; exact putSel_on (e := (23, 37, .bool false)) 23 rfl rfl (hon 23 rfl) rfl
         replace ha := aM_ ha
         have HB := aM_ QHB
         have TB := aM_ QTB
         refine value_ (w1 := w'.alloc (.cells #[.int .i64 y, .int .i64 z] 3)) (v := .slice (some ⟨w'.heap.size, 0, none⟩) 2 2) (wanted_on rfl rfl rfl (e37.trans rfl)) rfl ?_ ?_
         ·go_simp
         refine hK.out _ _ ⟨w'.heap.size, (.slice (some ⟨w'.heap.size, 0, none⟩) 2 2), (by rw [ha.out]; exact putSel_upk 28 hb_ rfl rfl rfl), bthen' HB.out (below_alloc (Below.refl _ w') _), TB.out.alloc _, fun _ => Blk.new w' _ _ rfl, fun _ => rfl⟩
        refine steps_cons ?_ ?_
        ·rintro b a w' ⟨ge, m28_, ha, QHB, QTB, QEB, QX28_⟩ hb_ hon hoff
         refine ⟨_, rfl, fun K hK => ?_⟩
         have e42 : a.tmps[42]? = some (m28_) := by rw [ha]; exact putSel_on (e := (28, 42, m28_)) 28 rfl rfl (hon 28 rfl) rfl
         rw [QX28_ (hon 28 rfl)] at e42
         have e37 : a.tmps[37]? = some (.bool false) := by rw [ha]; exact putSel_on (e := (23, 37, .bool false)) 23 rfl rfl (hon 23 rfl) rfl
         replace ha := aM_ ha
         have HB := aM_ QHB
         have TB := aM_ QTB
         have EB := aM_ (QEB (hon 28 rfl))
         refine call_ 42 #[.int .i64 128, .slice (some ⟨ge, 0, none⟩) 2 2] (wanted_on rfl rfl rfl (e37.trans rfl)) rfl ?_ ?_
         ·go_simp
         refine (within2_any 128 y z ge 2 w' (by omega) EB.out).mono ?_
         rintro e w2' ⟨rfl, hb⟩
         rw [WV.out]
         refine ⟨_, rfl, ?_⟩
         refine hK.out _ _ ⟨ge, m28_, (by rw [ha.out]; exact putSel_upk 29 hb_ rfl rfl rfl), bthen' HB.out hb, TB.out.below hb, fun _ => EB.out.below hb, QX28_⟩
        refine steps_cons ?_ ?_
        ·rintro b a w' ⟨ge, m28_, ha, QHB, QTB, QEB, QX28_⟩ hb_ hon hoff
         refine ⟨_, rfl, fun K hK => ?_⟩
         have e43 : a.tmps[43]? = some (.bool wv) := by rw [ha]; exact putSel_on (e := (29, 43, .bool wv)) 29 rfl rfl (hon 29 rfl) rfl
         have e37 : a.tmps[37]? = some (.bool false) := by rw [ha]; exact putSel_on (e := (23, 37, .bool false)) 23 rfl rfl (hon 23 rfl) rfl
         replace ha := aM_ ha
         have HB := aM_ QHB
         have TB := aM_ QTB
         have EB := aM_ (QEB (hon 28 rfl))
         refine value_ (w1 := w') (v := .bool (!wv)) (wanted_on rfl rfl rfl (e37.trans (by first | rfl | (simp [*]; done)))) rfl ?_ ?_
         ·go_simp
          (try simp only [i64_w])
          try rfl
         refine hK.out _ _ ⟨ge, m28_, (by rw [ha.out]; exact putSel_upk 30 hb_ rfl rfl rfl), QHB, QTB, QEB, QX28_⟩
        refine steps_cons ?_ ?_
        ·rintro b a w' ⟨ge, m28_, ha, QHB, QTB, QEB, QX28_⟩ hb_ hon hoff
         refine ⟨_, rfl, fun K hK => ?_⟩
         have e37 : a.tmps[37]? = some (.bool false) := by rw [ha]; exact putSel_on (e := (23, 37, .bool false)) 23 rfl rfl (hon 23 rfl) rfl
         have e44 : a.tmps[44]? = some (.bool (!wv)) := by rw [ha]; exact putSel_on (e := (30, 44, .bool (!wv))) 30 rfl rfl (hon 30 rfl) rfl
         replace ha := aM_ ha
         have HB := aM_ QHB
         have TB := aM_ QTB
         have EB := aM_ (QEB (hon 28 rfl))
         refine value_ (w1 := w') (v := .bool (!wv)) (by rfl) rfl ?_ ?_
         ·go_simp
          (try simp only [i64_w])
          try rfl
         refine hK.out _ _ ⟨ge, m28_, (by rw [ha.out]; exact putSel_upk 31 hb_ rfl rfl rfl), QHB, QTB, QEB, QX28_⟩
        exact steps_nil
       ·rintro b a w' hall ⟨ge, m28_, ha, QHB, QTB, QEB, QX28_⟩
        clear HB TB
        have hb0_ := hall 0 (by kernel_rfl)
        have hb1_ := hall 1 (by kernel_rfl)
        have hb2_ := hall 2 (by kernel_rfl)
        have hb3_ := hall 3 (by kernel_rfl)
        have hb4_ := hall 4 (by kernel_rfl)
        have hb5_ := hall 5 (by kernel_rfl)
        have hb6_ := hall 6 (by kernel_rfl)
        have hb7_ := hall 7 (by kernel_rfl)
        have hb8_ := hall 8 (by kernel_rfl)
        have hb9_ := hall 9 (by kernel_rfl)
        have hb10_ := hall 10 (by kernel_rfl)
        have hb11_ := hall 11 (by kernel_rfl)
        have hb12_ := hall 12 (by kernel_rfl)
        have hb13_ := hall 13 (by kernel_rfl)
        have hb14_ := hall 14 (by kernel_rfl)
        have hb15_ := hall 15 (by kernel_rfl)
        have hb16_ := hall 16 (by kernel_rfl)
        have hb17_ := hall 17 (by kernel_rfl)
        have hb18_ := hall 18 (by kernel_rfl)
        have hb19_ := hall 19 (by kernel_rfl)
        have hb20_ := hall 20 (by kernel_rfl)
        have hb21_ := hall 21 (by kernel_rfl)
        have hb22_ := hall 22 (by kernel_rfl)
        have hb23_ := hall 23 (by kernel_rfl)
        have hb24_ := hall 24 (by kernel_rfl)
        have hb25_ := hall 25 (by kernel_rfl)
        have hb26_ := hall 26 (by kernel_rfl)
        have hb27_ := hall 27 (by kernel_rfl)
        have hb28_ := hall 28 (by kernel_rfl)
        have hb29_ := hall 29 (by kernel_rfl)
        have hb30_ := hall 30 (by kernel_rfl)
        have hb31_ := hall 31 (by kernel_rfl)
        subst ha
        obtain rfl := QX28_ hb28_
        simp only [putSel, hb0_, hb1_, hb2_, hb3_, hb4_, hb5_, hb6_, hb7_, hb8_, hb9_, hb10_, hb11_, hb12_, hb13_, hb14_, hb15_, hb16_, hb17_, hb18_, hb19_, hb20_, hb21_, hb22_, hb23_, hb24_, hb25_, hb26_, hb27_, hb28_, hb29_, hb30_, hb31_, if_true, Act.put, List.setIfInBounds_toArray, List.set_cons_zero, List.set_cons_succ]
        have HB := aM_ QHB
        clear QHB
        have TB := aM_ QTB
        clear QTB
        have EB := aM_ (QEB hb28_)
        clear QEB
        clear hall hb0_ hb1_ hb2_ hb3_ hb4_ hb5_ hb6_ hb7_ hb8_ hb9_ hb10_ hb11_ hb12_ hb13_ hb14_ hb15_ hb16_ hb17_ hb18_ hb19_ hb20_ hb21_ hb22_ hb23_ hb24_ hb25_ hb26_ hb27_ hb28_ hb29_ hb30_ hb31_
        have HB5 := lH_ (bthen' HB2.out HB.out)
        have hw2 : wv = true ∨ wv = false := by cases wv <;> simp
        have hkl := HKL.out
        rcases hw2 with hw2 | hw2
        ·have HR := lH_ (HN.out _ HAA.out (by rw [decide_eq_true (by omega : 1 ≤ x), decide_eq_true (by omega : x ≤ 9), HLT.out, hwv, hw2]; rfl))
         subst hw2
         go_wp2_with fail
         exact ⟨⟨k + 1, by go_num, by omega, HR, HB5⟩, by simp [intOf]; omega⟩
        ·have HF : Hid (ancB l ⟨ha, hb, hc⟩ = false) := lH_ (by rw [HE.out, hwv, hw2, Bool.and_false]; rfl)
         subst hw2
         go_wp2_with fail
         go_ret
         exact ⟨ret_bool HF.out.symm, bthen' HX.out HB5.out⟩
  ·have d1 : decide (k < l.length) = false := decide_eq_false hlt
   have HA1 : Hid (anB 0 l = true) := lH_ (by rw [HA.out, List.drop_eq_nil_of_le (by omega)]; rfl)
   have BR := lH_ (B.out.below HBr.out)
   have HE2 : Hid (ancB l ⟨ha, hb, hc⟩ = hangB ⟨ha, hb, hc⟩) := lH_ (by rw [HE.out, HA1.out]; rfl)
   have t0 := BR.out.cell 0
   have t1 := BR.out.cell 1
   have t2 := BR.out.cell 2
   simp only [gA_, gZ_, gS_] at t0 t1 t2
   by_cases h0 : ha = 0
   ·have e0 : (ha == 0) = true := by simpa using h0
    have HQ : Hid (ancB l ⟨ha, hb, hc⟩ = decide ((⟨ha, hb, hc⟩ : I3) = zI3)) := lH_ (by rw [HE2.out, HH.out, if_pos h0])
    have H0 := lH_ h0
    clear h0 hlt
    go_wp2_with fail
    all_goals
     have h0 := H0.out
     clear e0 t0 t1 t2
     go_ret
     exact ⟨ret_bool (by rw [HQ.out]; simp [zI3, *]), bthen' HX.out HBr.out⟩
   ·have e0 : (ha == 0) = false := by simpa using h0
    have HQ : Hid (ancB l ⟨ha, hb, hc⟩ = (decide (0 < ha) && (decide (ha ≤ 9) && wi2 128 hb hc))) := lH_ (by rw [HE2.out, HH.out, if_neg h0])
    clear h0 hlt
    obtain ⟨q1, d2⟩ : ∃ q, decide (0 < ha) = q := ⟨_, rfl⟩
    obtain ⟨q2, d3⟩ : ∃ q, decide (ha ≤ 9) = q := ⟨_, rfl⟩
    rw [d2, d3] at HQ
    cases q1
    ·go_wp2_with fail
     go_ret
     exact ⟨ret_bool HQ.out.symm, bthen' HX.out HBr.out⟩
    ·cases q2
     ·go_wp2_with fail
      go_ret
      exact ⟨ret_bool HQ.out.symm, bthen' HX.out HBr.out⟩
     ·go_wp2_with fail
      obtain ⟨w4, g42, hw, hg, S, HS4, _⟩ := new_box wr #[.int .i64 hb, .int .i64 hc] 3
      rw [hw, hg]
      refine (within2_any 128 hb hc g42 2 w4 (by omega) S.out).mono ?_
      rintro e w5 ⟨rfl, hb5⟩
      have HB5 := lH_ (bthen' HBr.out (bthen' HS4.out hb5))
      clear hb5 hw hg t0 t1 t2
      go_wp2_with fail
      go_ret
      exact ⟨ret_bool (by rw [HQ.out]; rfl), bthen' HX.out HB5.out⟩
/- outline's deltas. -/
def mvB (m : I2) : Bool := wi2 64 m.a m.b
def dOk (n : Nat) (R hc p : Int) (d : Dl) : Bool := decide (0 ≤ d.region) && (decide (d.region < R) && (decide (p < d.region) && (wiB 64 d.adv && (decide (d.moves.length = n) && (!(d.moves.any fun m => !mvB m) && (!decide (hc = 0) || decide (d.moves.getD (n - 1) zI2 = zI2)))))))
def dlB (n : Nat) (R hc : Int) : Int → List Dl → Bool
 | _, [] => true
 | p, d :: l => dOk n R hc p d && dlB n R hc d.region l
def lastD (l : List Dl) (k : Nat) : Int := if k = 0 then -1 else (l.getD (k - 1) zDl).region
theorem dlB_at (n : Nat) (R hc : Int) (l : List Dl) (k : Nat) (h : k < l.length) : dlB n R hc (lastD l k) (l.drop k) = (dOk n R hc (lastD l k) (l.getD k zDl) && dlB n R hc (lastD l (k + 1)) (l.drop (k + 1))) := by
 rw [drop_at l k h zDl]
 rfl
def Gl.dlOk (g : Gl) (R : Int) : Bool := dlB g.pts R g.hang.a (-1) g.dl
theorem run_eqz (m0 m1 : Int) (w : World) : (Op.equalIn 10000 62 (.agg #[.int .i64 m0, .int .i64 m1]) (.agg #[.int .i64 0, .int .i64 0])).run Try.prog w = .ok (m0 == 0 && m1 == 0) w := by
 have hu : Try.prog.underlying 62 = some (.array 2 3) := by kernel_rfl
 have hI : Try.prog.underlying 3 = some (.int .i64) := by kernel_rfl
 have hc : Try.prog.cellsOf 3 = 1 := by kernel_rfl
 obtain ⟨i, hi⟩ : ∃ i, Try.prog.info? 3 = some i := Option.isSome_iff_exists.1 (by kernel_rfl)
 have hb : ∀ (a b : Int) (w : World), (Op.equalIn 9999 3 (.int .i64 a) (.int .i64 b)).run Try.prog w = .ok (a == b) w := fun a b w => run_equalIn_int w 9998 _ _ _ a b hI
 rw [show (10000 : Nat) = 9999 + 1 from rfl, run_equalIn_array w 9999 _ _ hu hi, hc]
 simp only [show List.range 2 = [0, 1] from rfl, Op.eqItems, Sem.run_bind]
 have hp : Try.prog.plainKey 3 = true := by kernel_rfl
 rw [run_part_plain w hp (v := .int .i64 m0) rfl]
 simp only [Result.andThen_ok]
 rw [run_part_plain w hp (v := .int .i64 0) rfl]
 simp only [Result.andThen_ok, hb]
 by_cases h0 : m0 = 0
 ·subst h0
  simp only [BEq.rfl, Bool.not_true, Bool.false_eq_true, if_false, Bool.true_and, Sem.run_bind]
  rw [run_part_plain w hp (v := .int .i64 m1) rfl]
  simp only [Result.andThen_ok]
  rw [run_part_plain w hp (v := .int .i64 0) rfl]
  simp only [Result.andThen_ok, hb]
  by_cases h1 : m1 = 0
  ·subst h1; rfl
  ·have e : (m1 == 0) = false := by simpa using h1
   rw [e]; rfl
 ·have e : (m0 == 0) = false := by simpa using h0
  rw [e]; rfl
def A3 (h : Hd) (a : Addr) : Prop := h.a3 = some a
theorem mvNot_any (m : I2) (w : World) : Calls Try.prog 92 #[.agg #[.int .i64 m.a, .int .i64 m.b]] w fun e w' => e = .returned (.bool (!mvB m)) ∧ Below w.heap.size w w' := by
 obtain ⟨x, y⟩ := m
 dsimp only
 go_enter Try.func92, Try.ntmps92
 go_upto_region 1 with fail
 obtain ⟨w1, b, hw, hb, B, HB, _⟩ := new_box w #[.int .i64 x, .int .i64 y] 62
 rw [hw, hb]
 clear hw hb
 have c0 := B.out.cell 0
 have c1 := B.out.cell 1
 simp only [gA_, gZ_, gS_] at c0 c1
 go_wp2_with fail
 obtain ⟨w2, g, hw, hg, S, HB2, _⟩ := new_box w1 #[.int .i64 x, .int .i64 y] 3
 rw [hw, hg]
 refine (within2_any 64 x y g 2 w2 (by omega) S.out).mono ?_
 rintro e w3 ⟨rfl, hb⟩
 have HB3 := lH_ (bthen' HB.out (bthen' HB2.out hb))
 clear hb hw hg c0 c1
 go_wp2_with fail
 go_ret
 exact ⟨rfl, HB3.out⟩
theorem deltas_any (g : Gl) (h : Hd) (R : Int) (w : World) (hg : GlR w g h) (hf : g.few) : Calls Try.prog 63 #[.agg (gv g h), .int .i64 R] w fun e w' => e = .returned (.bool (g.dlOk R)) ∧ Below w.heap.size w w' := by
 have HG := lH_ hg
 have HFW := lH_ hf
 have hdl := hf.2.2.1
 have HE : Hid (g.dlOk R = dlB g.pts R g.hang.a (-1) g.dl) := lH_ rfl
 have hpn : g.pts ≤ 3000000 := by have := hf.1; have := hf.2.1; have := hf.2.2.2.2.1; unfold Gl.pts; omega
 have hp1 : 1 ≤ g.pts := by unfold Gl.pts; omega
 clear hg hf
 go_enter Try.func63, Try.ntmps63
 go_upto_region 1 with fail
 obtain ⟨w1, gb, hw, hb, B, HX, _⟩ := new_box w (gv g h) 29
 unfold gv at hw ⊢
 rw [hw, hb]
 clear hw hb
 have c0 := B.out.cell 0
 have c1 := B.out.cell 1
 have c2 := B.out.cell 2
 have c3 := B.out.cell 3
 have c4 := B.out.cell 4
 have c5 := B.out.cell 5
 have c6 := B.out.cell 6
 have c7 := B.out.cell 7
 simp only [gv, gA_, gZ_, gS_] at c0 c1 c2 c3 c4 c5 c6 c7
 go_wp2_with fail
 refine (points_any g h w1 (HG.out.below HX.out) HFW.out).mono ?_
 rintro e w2 ⟨rfl, hb⟩
 have HX2 := lH_ (bthen' HX.out hb)
 have B2 := lH_ (B.out.below hb)
 clear hb c0 c1 c2 c3 c4 c5 c6 c7 B HX
 have c6 := B2.out.cell 6
 simp only [gv, gA_, gZ_, gS_] at c6
 generalize hpts : g.pts = n at *
 have HN := lH_ hpts
 clear hpts
 go_wp2_with fail
 go_loopw [14] (fun i wr => ∃ k : Nat, i = .int .i64 k ∧ k ≤ g.dl.length ∧ Hid (g.dlOk R = dlB n R g.hang.a (lastD g.dl k) (g.dl.drop k)) ∧ Hid (Below w2.heap.size w2 wr)) (fun i _ => g.dl.length - (intOf i).toNat)
 case atStart => exact ⟨0, rfl, Nat.zero_le _, lH_ HE.out, lH_ (Below.refl _ _)⟩
 case round =>
  clear c6 HE
  obtain ⟨k, rfl, hk, HA, HBr⟩ := hrel
  by_cases hlt : k < g.dl.length
  ·have d1 : decide (k < g.dl.length) = true := decide_eq_true hlt
   have HGr := lH_ (HG.out.below (bthen' HX2.out HBr.out))
   obtain ⟨ad, c0, c1, c2, had, hK, p0, p1, p2⟩ := el3 (d := kDl) rfl HGr.out.dl zDl k hlt
   obtain ⟨Am, cm, hcs, hcm, hM⟩ := kDl_open hK
   simp only [List.cons.injEq, and_true] at hcs
   obtain ⟨rfl, rfl, rfl⟩ := hcs
   have HS := lH_ (dlB_at n R g.hang.a g.dl k hlt)
   have hmv : (g.dl.getD k zDl).moves.length ≤ 1000000 := HFW.out.2.2.2.2.2 _ (getD_at hlt zDl)
   have hprev : k = 0 ∧ lastD g.dl k = -1 ∨ ∃ j : Nat, k = j + 1 ∧ lastD g.dl k = (g.dl.getD j zDl).region := by
    rcases k with _ | j
    ·exact .inl ⟨rfl, rfl⟩
    ·exact .inr ⟨j, rfl, rfl⟩
   have HAA := lH_ (HA.out.trans HS.out)
   generalize g.dl.getD k zDl = d at *
   obtain ⟨r, av, ms⟩ := d
   dsimp only at p0 p1 p2 hM hcm hmv
   have HM := lH_ hM
   have b0 : (0 : Int) ≤ (k : Int) := by omega
   have b1 : (k : Int) < (g.dl.length : Int) := by omega
   have HAD : A3 h ad := had
   clear hK HS hM HA
   rw [had] at *
   go_upto_region 5 with fail
   obtain ⟨w3, g7, hw, hg7, T, HT, _⟩ := new_box wr #[.int .i64 r, .int .i64 av, .slice Am ms.length cm] 59
   rw [hw, hg7]
   have HB3 := lH_ (bthen' HBr.out HT.out)
   have HM3 := lH_ (Kd.C_below HM.out HT.out)
   clear hw hg7 p0 p1 p2 HBr HM
   have t0 := T.out.cell 0
   simp only [gA_, gZ_, gS_] at t0
   have HDO : Hid (dOk n R g.hang.a (lastD g.dl k) ⟨r, av, ms⟩ = (decide (0 ≤ r) && (decide (r < R) && (decide (lastD g.dl k < r) && (wiB 64 av && (decide (ms.length = n) && (!(ms.any fun m => !mvB m) && (!decide (g.hang.a = 0) || decide (ms.getD (n - 1) zI2 = zI2))))))))) := lH_ rfl
   have HFE := lH_ (show dOk n R g.hang.a (lastD g.dl k) ⟨r, av, ms⟩ = false → g.dlOk R = false from fun h => by rw [HAA.out, h]; rfl)
   have HTE := lH_ (show dOk n R g.hang.a (lastD g.dl k) ⟨r, av, ms⟩ = true → g.dlOk R = dlB n R g.hang.a (lastD g.dl (k + 1)) (g.dl.drop (k + 1)) from fun h => by rw [HAA.out, h]; rfl)
   clear HAA
   by_cases h1 : r < 0
   ·have e1 : decide (r < 0) = true := decide_eq_true h1
    have HF : Hid (g.dlOk R = false) := lH_ (HFE.out (by rw [HDO.out]; rw [decide_eq_false (by omega : ¬ 0 ≤ r)]; rfl))
    clear h1 hprev
    go_quiet (fail)
    have HB4 := lH_ (bdrewN HB3.out nq)
    have T4 := lH_ (T.out.drewN nq)
    have HM4 : Hid (Kd.C kI2 (w3.drewN nq) Am ms.length ms) := lH_ (Kd.C_below HM3.out (bdrewN (Below.refl _ _) nq))
    have B4 := lH_ (B2.out.below HB4.out)
    clear t0
    generalize w3.drewN nq = w4 at *
    go_wp2_with fail
    go_ret
    exact ⟨ret_bool HF.out.symm, bthen' HX2.out HB4.out⟩
   ·have e1 : decide (r < 0) = false := decide_eq_false h1
    by_cases h2 : R ≤ r
    ·have e2 : decide (R ≤ r) = true := decide_eq_true h2
     have HF : Hid (g.dlOk R = false) := lH_ (HFE.out (by rw [HDO.out]; rw [decide_eq_true (by omega : 0 ≤ r), decide_eq_false (by omega : ¬ r < R)]; rfl))
     clear h1 h2 hprev
     go_quiet (fail)
     have HB4 := lH_ (bdrewN HB3.out nq)
     have T4 := lH_ (T.out.drewN nq)
     have HM4 : Hid (Kd.C kI2 (w3.drewN nq) Am ms.length ms) := lH_ (Kd.C_below HM3.out (bdrewN (Below.refl _ _) nq))
     have B4 := lH_ (B2.out.below HB4.out)
     clear t0
     generalize w3.drewN nq = w4 at *
     go_wp2_with fail
     go_ret
     exact ⟨ret_bool HF.out.symm, bthen' HX2.out HB4.out⟩
    ·have e2 : decide (R ≤ r) = false := decide_eq_false h2
     have HQ := lH_ (show 0 ≤ r ∧ r < R by omega)
     rcases hprev with ⟨hk0, hl0⟩ | ⟨j, hkj, hlj⟩
     ·have e3 : decide (0 < k) = false := decide_eq_false (by omega)
      have e3' : decide (0 < (k : Int)) = false := decide_eq_false (by omega)
      have HLT : Hid (decide (lastD g.dl k < r) = true) := lH_ (decide_eq_true (by rw [hl0]; omega))
      clear hk0 hl0 h1 h2
      go_quiet (fail)
      have HB4 := lH_ (bdrewN HB3.out nq)
      have T4 := lH_ (T.out.drewN nq)
      have HM4 : Hid (Kd.C kI2 (w3.drewN nq) Am ms.length ms) := lH_ (Kd.C_below HM3.out (bdrewN (Below.refl _ _) nq))
      have B4 := lH_ (B2.out.below HB4.out)
      clear t0
      generalize w3.drewN nq = w4 at *
      have t1 := T4.out.cell 1
      have t2 := T4.out.cell 2
      simp only [gA_, gZ_, gS_] at t1 t2
      go_wp2_with fail
      obtain ⟨w5, g48, hw, hg8, S, HS5, _⟩ := new_box w4 #[.int .i64 av] 3
      rw [hw, hg8]
      refine (within1_any 64 av g48 1 w5 (by omega) S.out).mono ?_
      rintro e w6 ⟨rfl, hb⟩
      have HS6 := lH_ (bthen' HS5.out hb)
      have HB6 := lH_ (bthen' HB4.out HS6.out)
      have T6 := lH_ (T4.out.below HS6.out)
      have HM6 := lH_ (Kd.C_below HM4.out HS6.out)
      have B6 := lH_ (B4.out.below HS6.out)
      clear hb hw hg8 t1 t2 T4 HM4 B4 HB4 HS5 HS6
      have t2 := T6.out.cell 2
      simp only [gA_, gZ_, gS_] at t2
      have hwi : wiB 64 av = true ∨ wiB 64 av = false := by cases wiB 64 av <;> simp
      rcases hwi with hwi | hwi
      ·have HWI := lH_ hwi
       rw [hwi]
       clear hwi
       by_cases hln : ms.length = n
       ·have d3 : ((ms.length : Int) != (n : Int)) = false := by rw [hln]; simp
        have HLN := lH_ hln
        clear hln
        go_wp2_with fail
        refine (any_move (d := kI2) zI2 (fun m => !mvB m) ms Am cm w6 rfl HM6.out (fun j _ c0 c1 hk w7 _ => by
         have hk2 := kI2_open hk
         simp only [List.cons.injEq, and_true] at hk2
         obtain ⟨rfl, rfl⟩ := hk2
         exact mvNot_any _ w7)).mono ?_
        rintro e w7 ⟨rfl, hb⟩
        have HB7 := lH_ (bthen' HB6.out hb)
        have T7 := lH_ (T6.out.below hb)
        have HM7 := lH_ (Kd.C_below HM6.out hb)
        have B7 := lH_ (B6.out.below hb)
        clear hb t2 T6 HM6 B6 HB6 d3
        have t2 := T7.out.cell 2
        have c2 := B7.out.cell 2
        simp only [gv, gA_, gZ_, gS_] at t2 c2
        have ham : (ms.any fun m => !mvB m) = true ∨ (ms.any fun m => !mvB m) = false := by cases (ms.any fun m => !mvB m) <;> simp
        rcases ham with ham | ham
        ·rw [ham]
         have HF : Hid (g.dlOk R = false) := lH_ (HFE.out (by rw [HDO.out]; rw [decide_eq_true HQ.out.1, decide_eq_true HQ.out.2, HLT.out, HWI.out]; rw [decide_eq_true HLN.out, ham]; rfl))
         clear ham
         go_wp2_with fail
         go_ret
         exact ⟨ret_bool HF.out.symm, bthen' HX2.out HB7.out⟩
        ·rw [ham]
         have HAM := lH_ ham
         clear ham
         by_cases h0 : g.hang.a = 0
         ·have e0 : (g.hang.a == 0) = true := by simpa using h0
          have HLL := HLN.out
          obtain ⟨ad3, m0, m1, hA3, hK3, q0, q1⟩ := el2 (d := kI2) rfl HM7.out zI2 (n - 1) (by omega)
          have hk3 := kI2_open hK3
          simp only [List.cons.injEq, and_true] at hk3
          obtain ⟨rfl, rfl⟩ := hk3
          have HMZ := lH_ (show dOk n R g.hang.a (lastD g.dl k) ⟨r, av, ms⟩ = decide (ms.getD (n - 1) zI2 = zI2) by rw [HDO.out]; rw [decide_eq_true HQ.out.1, decide_eq_true HQ.out.2, HLT.out, HWI.out]; rw [decide_eq_true HLN.out, HAM.out, decide_eq_true h0]; rfl)
          generalize ms.getD (n - 1) zI2 = mm at *
          obtain ⟨m0, m1⟩ := mm
          dsimp only at q0 q1
          have e4 : (n : Int) - 1 = ((n - 1 : Nat) : Int) := by omega
          have b6 : (0 : Int) ≤ ((n - 1 : Nat) : Int) := by omega
          have b7 : ((n - 1 : Nat) : Int) < (ms.length : Int) := by omega
          have e5 : IntKind.i64.wrap ((n - 1 : Nat) : Int) = ((n - 1 : Nat) : Int) := IntWalk.i64_in _ (by omega)
          generalize n - 1 = n1 at *
          subst hA3
          clear hK3 h0 HLL
          go_wp2_with fail
          rw [run_eqz]
          have hz : (m0 == 0 && m1 == 0) = true ∨ (m0 == 0 && m1 == 0) = false := by cases (m0 == 0 && m1 == 0) <;> simp
          rcases hz with hz | hz
          ·rw [hz]
           have HT2 := lH_ (HTE.out (by rw [HMZ.out]; simp at hz; simp [zI2]; exact hz))
           clear hz
           simp only [Result.andThen_ok, Bool.not_true, Bool.not_false]
           go_wp2_with fail
           exact ⟨⟨k + 1, by go_num, by omega, HT2, HB7⟩, by simp [intOf]; omega⟩
          ·rw [hz]
           have HF : Hid (g.dlOk R = false) := lH_ (HFE.out (by rw [HMZ.out]; simp at hz; simp [zI2]; exact hz))
           clear hz
           simp only [Result.andThen_ok, Bool.not_true, Bool.not_false]
           go_wp2_with fail
           go_ret
           exact ⟨ret_bool HF.out.symm, bthen' HX2.out HB7.out⟩
         ·have e0 : (g.hang.a == 0) = false := by simpa using h0
          have HT2 := lH_ (HTE.out (by rw [HDO.out]; rw [decide_eq_true HQ.out.1, decide_eq_true HQ.out.2, HLT.out, HWI.out]; rw [decide_eq_true HLN.out, HAM.out, decide_eq_false h0]; rfl))
          clear h0
          go_wp2_with fail
          exact ⟨⟨k + 1, by go_num, by omega, HT2, HB7⟩, by simp [intOf]; omega⟩
       ·have d3 : ((ms.length : Int) != (n : Int)) = true := by simp; omega
        have HF : Hid (g.dlOk R = false) := lH_ (HFE.out (by rw [HDO.out]; rw [decide_eq_true HQ.out.1, decide_eq_true HQ.out.2, HLT.out, HWI.out]; rw [decide_eq_false hln]; rfl))
        clear hln
        go_wp2_with fail
        go_ret
        exact ⟨ret_bool HF.out.symm, bthen' HX2.out HB6.out⟩
      ·rw [hwi]
       have HF : Hid (g.dlOk R = false) := lH_ (HFE.out (by rw [HDO.out]; rw [decide_eq_true HQ.out.1, decide_eq_true HQ.out.2, HLT.out, hwi]; rfl))
       clear hwi
       go_wp2_with fail
       go_ret
       exact ⟨ret_bool HF.out.symm, bthen' HX2.out HB6.out⟩
     ·have e3 : decide (0 < k) = true := decide_eq_true (by omega)
      have e3' : decide (0 < (k : Int)) = true := decide_eq_true (by omega)
      obtain ⟨ad2, c0, c1, c2, had2, hK, p0, p1, p2⟩ := el3 (d := kDl) rfl (HG.out.below (bthen' HX2.out HB3.out)).dl zDl j (by omega)
      obtain rfl : ad = ad2 := Option.some.inj ((show h.a3 = some ad from HAD).symm.trans had2)
      obtain ⟨Aj, cj, hcs, _, _⟩ := kDl_open hK
      simp only [List.cons.injEq, and_true] at hcs
      obtain ⟨rfl, rfl, rfl⟩ := hcs
      clear p1 p2 hK
      generalize (g.dl.getD j zDl).region = pv at *
      have c6 : w3.cell? ⟨gb, 6, none⟩ = some (.slice (some ad) g.dl.length h.c3) := by rw [← show h.a3 = some ad from HAD]; exact (B2.out.below HB3.out).cell 6
      have e4 : (k : Int) - 1 = (j : Int) := by omega
      have e6 : IntKind.i64.wrap (j : Int) = (j : Int) := IntWalk.i64_in _ (by omega)
      have b2 : (0 : Int) ≤ (j : Int) := by omega
      have b3 : (j : Int) < (g.dl.length : Int) := by omega
      by_cases h3 : r ≤ pv
      ·have e5 : decide (r ≤ pv) = true := decide_eq_true h3
       have HF : Hid (g.dlOk R = false) := lH_ (HFE.out (by rw [HDO.out]; rw [decide_eq_true HQ.out.1, decide_eq_true HQ.out.2, decide_eq_false (by rw [hlj]; omega : ¬ lastD g.dl k < r)]; rfl))
       clear h1 h2 h3 hkj hlj
       go_quiet (fail)
       have HB4 := lH_ (bdrewN HB3.out nq)
       have T4 := lH_ (T.out.drewN nq)
       have HM4 : Hid (Kd.C kI2 (w3.drewN nq) Am ms.length ms) := lH_ (Kd.C_below HM3.out (bdrewN (Below.refl _ _) nq))
       have B4 := lH_ (B2.out.below HB4.out)
       clear t0
       generalize w3.drewN nq = w4 at *
       go_wp2_with fail
       go_ret
       exact ⟨ret_bool HF.out.symm, bthen' HX2.out HB4.out⟩
      ·have e5 : decide (r ≤ pv) = false := decide_eq_false h3
       have HLT : Hid (decide (lastD g.dl k < r) = true) := lH_ (decide_eq_true (by rw [hlj]; omega))
       clear h3 hlj hkj h1 h2
       go_quiet (fail)
       have HB4 := lH_ (bdrewN HB3.out nq)
       have T4 := lH_ (T.out.drewN nq)
       have HM4 : Hid (Kd.C kI2 (w3.drewN nq) Am ms.length ms) := lH_ (Kd.C_below HM3.out (bdrewN (Below.refl _ _) nq))
       have B4 := lH_ (B2.out.below HB4.out)
       clear t0
       generalize w3.drewN nq = w4 at *
       clear p0 c6 e4 e6
       have t1 := T4.out.cell 1
       have t2 := T4.out.cell 2
       simp only [gA_, gZ_, gS_] at t1 t2
       go_wp2_with fail
       obtain ⟨w5, g48, hw, hg8, S, HS5, _⟩ := new_box w4 #[.int .i64 av] 3
       rw [hw, hg8]
       refine (within1_any 64 av g48 1 w5 (by omega) S.out).mono ?_
       rintro e w6 ⟨rfl, hb⟩
       have HS6 := lH_ (bthen' HS5.out hb)
       have HB6 := lH_ (bthen' HB4.out HS6.out)
       have T6 := lH_ (T4.out.below HS6.out)
       have HM6 := lH_ (Kd.C_below HM4.out HS6.out)
       have B6 := lH_ (B4.out.below HS6.out)
       clear hb hw hg8 t1 t2 T4 HM4 B4 HB4 HS5 HS6
       have t2 := T6.out.cell 2
       simp only [gA_, gZ_, gS_] at t2
       have hwi : wiB 64 av = true ∨ wiB 64 av = false := by cases wiB 64 av <;> simp
       rcases hwi with hwi | hwi
       ·have HWI := lH_ hwi
        rw [hwi]
        clear hwi
        by_cases hln : ms.length = n
        ·have d3 : ((ms.length : Int) != (n : Int)) = false := by rw [hln]; simp
         have HLN := lH_ hln
         clear hln
         go_wp2_with fail
         refine (any_move (d := kI2) zI2 (fun m => !mvB m) ms Am cm w6 rfl HM6.out (fun j _ c0 c1 hk w7 _ => by
          have hk2 := kI2_open hk
          simp only [List.cons.injEq, and_true] at hk2
          obtain ⟨rfl, rfl⟩ := hk2
          exact mvNot_any _ w7)).mono ?_
         rintro e w7 ⟨rfl, hb⟩
         have HB7 := lH_ (bthen' HB6.out hb)
         have T7 := lH_ (T6.out.below hb)
         have HM7 := lH_ (Kd.C_below HM6.out hb)
         have B7 := lH_ (B6.out.below hb)
         clear hb t2 T6 HM6 B6 HB6 d3
         have t2 := T7.out.cell 2
         have c2 := B7.out.cell 2
         simp only [gv, gA_, gZ_, gS_] at t2 c2
         have ham : (ms.any fun m => !mvB m) = true ∨ (ms.any fun m => !mvB m) = false := by cases (ms.any fun m => !mvB m) <;> simp
         rcases ham with ham | ham
         ·rw [ham]
          have HF : Hid (g.dlOk R = false) := lH_ (HFE.out (by rw [HDO.out]; rw [decide_eq_true HQ.out.1, decide_eq_true HQ.out.2, HLT.out, HWI.out]; rw [decide_eq_true HLN.out, ham]; rfl))
          clear ham
          go_wp2_with fail
          go_ret
          exact ⟨ret_bool HF.out.symm, bthen' HX2.out HB7.out⟩
         ·rw [ham]
          have HAM := lH_ ham
          clear ham
          by_cases h0 : g.hang.a = 0
          ·have e0 : (g.hang.a == 0) = true := by simpa using h0
           have HLL := HLN.out
           obtain ⟨ad3, m0, m1, hA3, hK3, q0, q1⟩ := el2 (d := kI2) rfl HM7.out zI2 (n - 1) (by omega)
           have hk3 := kI2_open hK3
           simp only [List.cons.injEq, and_true] at hk3
           obtain ⟨rfl, rfl⟩ := hk3
           have HMZ := lH_ (show dOk n R g.hang.a (lastD g.dl k) ⟨r, av, ms⟩ = decide (ms.getD (n - 1) zI2 = zI2) by rw [HDO.out]; rw [decide_eq_true HQ.out.1, decide_eq_true HQ.out.2, HLT.out, HWI.out]; rw [decide_eq_true HLN.out, HAM.out, decide_eq_true h0]; rfl)
           generalize ms.getD (n - 1) zI2 = mm at *
           obtain ⟨m0, m1⟩ := mm
           dsimp only at q0 q1
           have e4 : (n : Int) - 1 = ((n - 1 : Nat) : Int) := by omega
           have b6 : (0 : Int) ≤ ((n - 1 : Nat) : Int) := by omega
           have b7 : ((n - 1 : Nat) : Int) < (ms.length : Int) := by omega
           have e5 : IntKind.i64.wrap ((n - 1 : Nat) : Int) = ((n - 1 : Nat) : Int) := IntWalk.i64_in _ (by omega)
           generalize n - 1 = n1 at *
           subst hA3
           clear hK3 h0 HLL
           go_wp2_with fail
           rw [run_eqz]
           have hz : (m0 == 0 && m1 == 0) = true ∨ (m0 == 0 && m1 == 0) = false := by cases (m0 == 0 && m1 == 0) <;> simp
           rcases hz with hz | hz
           ·rw [hz]
            have HT2 := lH_ (HTE.out (by rw [HMZ.out]; simp at hz; simp [zI2]; exact hz))
            clear hz
            simp only [Result.andThen_ok, Bool.not_true, Bool.not_false]
            go_wp2_with fail
            exact ⟨⟨k + 1, by go_num, by omega, HT2, HB7⟩, by simp [intOf]; omega⟩
           ·rw [hz]
            have HF : Hid (g.dlOk R = false) := lH_ (HFE.out (by rw [HMZ.out]; simp at hz; simp [zI2]; exact hz))
            clear hz
            simp only [Result.andThen_ok, Bool.not_true, Bool.not_false]
            go_wp2_with fail
            go_ret
            exact ⟨ret_bool HF.out.symm, bthen' HX2.out HB7.out⟩
          ·have e0 : (g.hang.a == 0) = false := by simpa using h0
           have HT2 := lH_ (HTE.out (by rw [HDO.out]; rw [decide_eq_true HQ.out.1, decide_eq_true HQ.out.2, HLT.out, HWI.out]; rw [decide_eq_true HLN.out, HAM.out, decide_eq_false h0]; rfl))
           clear h0
           go_wp2_with fail
           exact ⟨⟨k + 1, by go_num, by omega, HT2, HB7⟩, by simp [intOf]; omega⟩
        ·have d3 : ((ms.length : Int) != (n : Int)) = true := by simp; omega
         have HF : Hid (g.dlOk R = false) := lH_ (HFE.out (by rw [HDO.out]; rw [decide_eq_true HQ.out.1, decide_eq_true HQ.out.2, HLT.out, HWI.out]; rw [decide_eq_false hln]; rfl))
         clear hln
         go_wp2_with fail
         go_ret
         exact ⟨ret_bool HF.out.symm, bthen' HX2.out HB6.out⟩
       ·rw [hwi]
        have HF : Hid (g.dlOk R = false) := lH_ (HFE.out (by rw [HDO.out]; rw [decide_eq_true HQ.out.1, decide_eq_true HQ.out.2, HLT.out, hwi]; rfl))
        clear hwi
        go_wp2_with fail
        go_ret
        exact ⟨ret_bool HF.out.symm, bthen' HX2.out HB6.out⟩
  ·have d1 : decide (k < g.dl.length) = false := decide_eq_false hlt
   have HT1 : Hid (g.dlOk R = true) := lH_ (by rw [HA.out, List.drop_eq_nil_of_le (by omega)]; rfl)
   clear hlt
   go_wp2_with fail
   go_ret
   exact ⟨ret_bool HT1.out.symm, bthen' HX2.out HBr.out⟩
/- outline's Check. -/
def Gl.chk6 (g : Gl) (R : Int) : Int := if g.dlOk R = false then 13 else 0
def Gl.chk5 (g : Gl) (R : Int) : Int := if g.adv < 0 ∨ 128 < g.adv then 3 else g.chk6 R
def Gl.chk4 (g : Gl) (R : Int) : Int := if ancB g.an g.hang = false then 35 else g.chk5 R
def Gl.chk3 (g : Gl) (R : Int) : Int := if ctsB g.ct = false then 12 else g.chk4 R
def Gl.chk2 (g : Gl) (R : Int) : Int := if 6 < g.ct.length ∨ 6 < g.an.length ∨ 40 < g.pts then 2 else g.chk3 R
def Gl.chk (g : Gl) (R : Int) : Int := if R < 0 ∨ 8 < R then 1 else g.chk2 R
theorem check_any (g : Gl) (h : Hd) (R : Int) (w : World) (hg : GlR w g h) (hf : g.few) : Calls Try.prog 22 #[.agg (gv g h), .int .i64 R] w fun e w' => e = .returned (.int .i64 (g.chk R)) ∧ Below w.heap.size w w' := by
 have HG := lH_ hg
 have HFW := lH_ hf
 have hn1 := hf.1
 have hn2 := hf.2.1
 have hpn : g.pts ≤ 3000000 := by have := hf.1; have := hf.2.1; have := hf.2.2.2.2.1; unfold Gl.pts; omega
 have HE : Hid (g.chk R = if R < 0 ∨ 8 < R then 1 else g.chk2 R) := lH_ rfl
 clear hg hf
 go_enter Try.func22, Try.ntmps22
 go_upto_region 1 with fail
 obtain ⟨w1, gb, hw, hb, B, HX, _⟩ := new_box w (gv g h) 29
 unfold gv at hw ⊢
 rw [hw, hb]
 clear hw hb
 have HG1 := lH_ (HG.out.below HX.out)
 by_cases h1 : R < 0
 ·have d1 : decide (R < 0) = true := decide_eq_true h1
  have HF : Hid (g.chk R = 1) := lH_ (HE.out.trans (if_pos (.inl h1)))
  clear h1
  go_wp2_with fail
  go_ret
  exact ⟨ret_int HF.out.symm, HX.out⟩
 ·have d1 : decide (R < 0) = false := decide_eq_false h1
  by_cases h2 : 8 < R
  ·have d2 : decide (8 < R) = true := decide_eq_true h2
   have HF : Hid (g.chk R = 1) := lH_ (HE.out.trans (if_pos (.inr h2)))
   clear h1 h2
   go_wp2_with fail
   go_ret
   exact ⟨ret_int HF.out.symm, HX.out⟩
  ·have d2 : decide (8 < R) = false := decide_eq_false h2
   have HE2 : Hid (g.chk R = if 6 < g.ct.length ∨ 6 < g.an.length ∨ 40 < g.pts then 2 else g.chk3 R) := lH_ (HE.out.trans (if_neg (by omega)))
   clear h1 h2
   have c0 := B.out.cell 0
   have c1 := B.out.cell 1
   simp only [gv, gA_, gZ_, gS_] at c0 c1
   by_cases h3 : 6 < g.ct.length
   ·have d3 : decide (6 < g.ct.length) = true := decide_eq_true h3
    have d3' : decide (6 < (g.ct.length : Int)) = true := decide_eq_true (by omega)
    have HF : Hid (g.chk R = 2) := lH_ (HE2.out.trans (if_pos (.inl h3)))
    clear h3
    go_wp2_with fail
    go_ret
    exact ⟨ret_int HF.out.symm, HX.out⟩
   ·have d3 : decide (6 < g.ct.length) = false := decide_eq_false h3
    have d3' : decide (6 < (g.ct.length : Int)) = false := decide_eq_false (by omega)
    by_cases h4 : 6 < g.an.length
    ·have d4 : decide (6 < g.an.length) = true := decide_eq_true h4
     have d4' : decide (6 < (g.an.length : Int)) = true := decide_eq_true (by omega)
     have HF : Hid (g.chk R = 2) := lH_ (HE2.out.trans (if_pos (.inr (.inl h4))))
     clear h3 h4
     go_wp2_with fail
     go_ret
     exact ⟨ret_int HF.out.symm, HX.out⟩
    ·have d4 : decide (6 < g.an.length) = false := decide_eq_false h4
     have d4' : decide (6 < (g.an.length : Int)) = false := decide_eq_false (by omega)
     have c0 := B.out.cell 0
     have c1 := B.out.cell 1
     have c2 := B.out.cell 2
     have c3 := B.out.cell 3
     have c4 := B.out.cell 4
     have c5 := B.out.cell 5
     have c6 := B.out.cell 6
     have c7 := B.out.cell 7
     simp only [gv, gA_, gZ_, gS_] at c0 c1 c2 c3 c4 c5 c6 c7
     go_wp2_with fail
     refine (points_any g h w1 HG1.out HFW.out).mono ?_
     rintro e w2 ⟨rfl, hb⟩
     have HX2 := lH_ (bthen' HX.out hb)
     have B2 := lH_ (B.out.below hb)
     clear hb c0 c1 c2 c3 c4 c5 c6 c7
     by_cases h5 : 40 < g.pts
     ·have d5 : decide (40 < g.pts) = true := decide_eq_true h5
      have d5' : decide (40 < (g.pts : Int)) = true := decide_eq_true (by omega)
      have HF : Hid (g.chk R = 2) := lH_ (HE2.out.trans (if_pos (.inr (.inr h5))))
      clear h3 h4 h5
      go_wp2_with fail
      go_ret
      exact ⟨ret_int HF.out.symm, HX2.out⟩
     ·have d5 : decide (40 < g.pts) = false := decide_eq_false h5
      have d5' : decide (40 < (g.pts : Int)) = false := decide_eq_false (by omega)
      have HE3 : Hid (g.chk R = if ctsB g.ct = false then 12 else g.chk4 R) := lH_ (HE2.out.trans (if_neg (by omega)))
      clear h3 h4 h5
      have c0 := B2.out.cell 0
      simp only [gv, gA_, gZ_, gS_] at c0
      go_wp2_with fail
      refine (cts_any g.ct h.a1 h.c1 w2 (HG.out.below HX2.out).ct).mono ?_
      rintro e w3 ⟨rfl, hb⟩
      have HX3 := lH_ (bthen' HX2.out hb)
      have B3 := lH_ (B2.out.below hb)
      clear hb c0
      have hz : ctsB g.ct = true ∨ ctsB g.ct = false := by cases ctsB g.ct <;> simp
      rcases hz with hz | hz
      ·rw [hz]
       have HE4 : Hid (g.chk R = if ancB g.an g.hang = false then 35 else g.chk5 R) := lH_ (HE3.out.trans (if_neg (by rw [hz]; simp)))
       clear hz
       have c1 := B3.out.cell 1
       have c2 := B3.out.cell 2
       have c3 := B3.out.cell 3
       have c4 := B3.out.cell 4
       simp only [gv, gA_, gZ_, gS_] at c1 c2 c3 c4
       go_wp2_with fail
       refine (anchors_any g.an g.hang h.a2 h.c2 w3 (HG.out.below HX3.out).an).mono ?_
       rintro e w4 ⟨rfl, hb⟩
       have HX4 := lH_ (bthen' HX3.out hb)
       have B4 := lH_ (B3.out.below hb)
       clear hb c1 c2 c3 c4
       have hz : ancB g.an g.hang = true ∨ ancB g.an g.hang = false := by cases ancB g.an g.hang <;> simp
       rcases hz with hz | hz
       ·rw [hz]
        have HE5 : Hid (g.chk R = if g.adv < 0 ∨ 128 < g.adv then 3 else g.chk6 R) := lH_ (HE4.out.trans (if_neg (by rw [hz]; simp)))
        clear hz
        have c5 := B4.out.cell 5
        simp only [gv, gA_, gZ_, gS_] at c5
        by_cases h6 : g.adv < 0
        ·have d6 : decide (g.adv < 0) = true := decide_eq_true h6
         have HF : Hid (g.chk R = 3) := lH_ (HE5.out.trans (if_pos (.inl h6)))
         clear h6
         go_wp2_with fail
         go_ret
         exact ⟨ret_int HF.out.symm, HX4.out⟩
        ·have d6 : decide (g.adv < 0) = false := decide_eq_false h6
         by_cases h7 : 128 < g.adv
         ·have d7 : decide (128 < g.adv) = true := decide_eq_true h7
          have HF : Hid (g.chk R = 3) := lH_ (HE5.out.trans (if_pos (.inr h7)))
          clear h6 h7
          go_wp2_with fail
          go_ret
          exact ⟨ret_int HF.out.symm, HX4.out⟩
         ·have d7 : decide (128 < g.adv) = false := decide_eq_false h7
          have HE6 : Hid (g.chk R = if g.dlOk R = false then 13 else 0) := lH_ (HE5.out.trans (if_neg (by omega)))
          clear h6 h7 c5
          have c0 := B4.out.cell 0
          have c1 := B4.out.cell 1
          have c2 := B4.out.cell 2
          have c3 := B4.out.cell 3
          have c4 := B4.out.cell 4
          have c5 := B4.out.cell 5
          have c6 := B4.out.cell 6
          have c7 := B4.out.cell 7
          simp only [gv, gA_, gZ_, gS_] at c0 c1 c2 c3 c4 c5 c6 c7
          go_wp2_with fail
          refine (deltas_any g h R w4 (HG.out.below HX4.out) HFW.out).mono ?_
          rintro e w5 ⟨rfl, hb⟩
          have HX5 := lH_ (bthen' HX4.out hb)
          clear hb c0 c1 c2 c3 c4 c5 c6 c7
          have hz : g.dlOk R = true ∨ g.dlOk R = false := by cases g.dlOk R <;> simp
          rcases hz with hz | hz
          ·rw [hz]
           have HF : Hid (g.chk R = 0) := lH_ (HE6.out.trans (if_neg (by rw [hz]; simp)))
           clear hz
           go_wp2_with fail
           go_ret
           exact ⟨ret_int HF.out.symm, HX5.out⟩
          ·rw [hz]
           have HF : Hid (g.chk R = 13) := lH_ (HE6.out.trans (if_pos hz))
           clear hz
           go_wp2_with fail
           go_ret
           exact ⟨ret_int HF.out.symm, HX5.out⟩
       ·rw [hz]
        have HF : Hid (g.chk R = 35) := lH_ (HE4.out.trans (if_pos hz))
        clear hz
        go_wp2_with fail
        go_ret
        exact ⟨ret_int HF.out.symm, HX4.out⟩
      ·rw [hz]
       have HF : Hid (g.chk R = 12) := lH_ (HE3.out.trans (if_pos hz))
       clear hz
       go_wp2_with fail
       go_ret
       exact ⟨ret_int HF.out.symm, HX3.out⟩
/- axes.strength. -/
theorem strength_any (t : I3) (n : Int) (w : World) (ht : tentB t = true) (hn : coordB n = true) : Calls Try.prog 41 #[.agg #[.int .i64 t.a, .int .i64 t.b, .int .i64 t.c], .int .i64 n] w fun e w' => e = .returned (.agg #[.int .i64 (strN t n), .int .i64 (strD t n)]) ∧ Below w.heap.size w w' := by
 have hu48 := Try.underlying48
 have hb := st_b ht hn
 have HN : Hid (strN t n = stN t n / ((Nat.gcd (stN t n).toNat (stD t n).toNat : Nat) : Int)) := lH_ rfl
 have HD : Hid (strD t n = stD t n / ((Nat.gcd (stN t n).toNat (stD t n).toNat : Nat) : Int)) := lH_ rfl
 have HSN : Hid (stN t n = if t.b = 0 ∨ n = t.b then 1 else if n ≤ t.a ∨ t.c ≤ n then 0 else if n < t.b then n - t.a else t.c - n) := lH_ rfl
 have HSD : Hid (stD t n = if t.b = 0 ∨ n = t.b then 1 else if n ≤ t.a ∨ t.c ≤ n then 1 else if n < t.b then t.b - t.a else t.c - t.b) := lH_ rfl
 generalize strN t n = rn at *
 generalize strD t n = rd at *
 generalize stN t n = sn at *
 generalize stD t n = sd at *
 unfold tentB at ht
 simp only [Bool.and_eq_true, decide_eq_true_eq, Bool.or_eq_true] at ht
 unfold coordB at ht hn
 rw [decide_eq_true_eq] at hn
 simp only [decide_eq_true_eq] at ht
 obtain ⟨a, b, c⟩ := t
 dsimp only at *
 obtain ⟨⟨ha1, ha2⟩, hab, hbc, ⟨hc1, hc2⟩, ho⟩ := ht
 obtain ⟨u, rfl⟩ : ∃ u : Nat, sn = u := ⟨sn.toNat, by omega⟩
 obtain ⟨v, rfl⟩ : ∃ v : Nat, sd = v := ⟨sd.toNat, by omega⟩
 rw [Int.toNat_natCast, Int.toNat_natCast] at HN HD
 have hgp : 0 < Nat.gcd u v := Nat.gcd_pos_of_pos_right _ (by omega)
 have hgl : Nat.gcd u v ≤ v := Nat.gcd_le_right _ (by omega)
 obtain ⟨gg, hgg⟩ : ∃ gg, Nat.gcd u v = gg := ⟨_, rfl⟩
 rw [hgg] at hgp hgl HN HD
 have HGG := lH_ hgg
 clear hgg ho
 have HV := lH_ hb
 go_enter Try.func41, Try.ntmps41
 go_upto_region 1 with fail
 obtain ⟨w1, g2, hw, hg, T1, HB1, _⟩ := new_box w #[.int .i64 a, .int .i64 b, .int .i64 c] 92
 obtain ⟨w2, g4, hw', hg', Z2, HB2, _⟩ := new_box w1 #[.int .i64 0, .int .i64 0] 48
 have eg : g2 + 1 = g4 := by rw [← hg', ← hw, World.size_alloc, hg]
 rw [hw, hg, hw', eg]
 have T2 := lH_ (T1.out.below HB2.out)
 have HBa := lH_ (bthen' HB1.out HB2.out)
 have GE4 := lH_ (show w.heap.size ≤ g4 by omega)
 clear hw hg hw' hg' eg T1 HB1 HB2
 go_upto_region 3 with fail
 obtain ⟨w3, g5, hw, hg, S3, HB3, _⟩ := new_box w2 #[.int .i64 0, .int .i64 1] 48
 rw [hw, hg]
 have T3 := lH_ (T2.out.below HB3.out)
 have Z3 := lH_ (Z2.out.below HB3.out)
 have HBb := lH_ (bthen' HBa.out HB3.out)
 have N45 := lH_ (show g4 ≠ g5 by have := Z2.out.lt; omega)
 have GE5 := lH_ (show w.heap.size ≤ g5 by have := HBa.out.size; omega)
 clear hw hg T2 Z2 HBa HB3
 have t0 := T3.out.cell 0
 have t1 := T3.out.cell 1
 have t2 := T3.out.cell 2
 simp only [gA_, gZ_, gS_] at t0 t1 t2
 have s0 := S3.out.cell 0
 have s1 := S3.out.cell 1
 simp only [gA_, gZ_, gS_] at s0 s1
 have f0 := S3.out.frozen 0
 have f1 := S3.out.frozen 1
 by_cases h1 : b = 0
 ·have d1 : (b == 0) = true := by simpa using h1
  have EU : Hid ((1 : Int) = (u : Int)) := lH_ (by have h := HSN.out; rw [if_pos (.inl h1)] at h; exact h.symm)
  have EV : Hid ((1 : Int) = (v : Int)) := lH_ (by have h := HSD.out; rw [if_pos (.inl h1)] at h; exact h.symm)
  clear HSN HSD
  go_upto_region 10 with fail
  clear h1 d1
  have S4 := lH_ (show Blk _ g5 #[.int .i64 1, .int .i64 1] 48 from S3.out.put 0 (.int .i64 1) rfl)
  have Z4 := lH_ (Z3.out.far N45.out 0 (.int .i64 1))
  have HB4 := lH_ (bset HBb.out GE5.out 0 (.int .i64 1))
  generalize World.setCell _ _ _ = w4 at *
  replace S4 : Hid (Blk w4 g5 #[.int .i64 (u : Int), .int .i64 (v : Int)] 48) := lH_ (by rw [← EU.out, ← EV.out]; exact S4.out)
  clear t0 t1 t2 s0 s1 f0 f1 EU EV T3
  have s0 := S4.out.cell 0
  have s1 := S4.out.cell 1
  simp only [gA_, gZ_, gS_] at s0 s1
  go_wp2_with fail
  refine (divisor_any u v w4 (by omega) (by omega)).mono ?_
  rintro e w5 ⟨rfl, nq, rfl⟩
  rw [HGG.out]
  have S5 := lH_ (S4.out.drewN nq)
  have Z5 := lH_ (Z4.out.drewN nq)
  have HB5 := lH_ (bdrewN HB4.out nq)
  clear s0 s1 S4 Z4 HB4
  generalize w4.drewN nq = w5 at *
  have s0 := S5.out.cell 0
  have s1 := S5.out.cell 1
  simp only [gA_, gZ_, gS_] at s0 s1
  have hq1 := Nat.div_le_self u gg
  have hq2 := Nat.div_le_self v gg
  obtain ⟨qu, hqu⟩ : ∃ q, u / gg = q := ⟨_, rfl⟩
  obtain ⟨qv, hqv⟩ : ∃ q, v / gg = q := ⟨_, rfl⟩
  rw [hqu] at hq1
  rw [hqv] at hq2
  have e1 : ((u : Int)).tdiv (gg : Int) = (qu : Int) := by rw [← hqu]; rfl
  have e2 : ((v : Int)).tdiv (gg : Int) = (qv : Int) := by rw [← hqv]; rfl
  have hz : ((gg : Int) == 0) = false := beq_eq_false_iff_ne.2 (by omega)
  have hz2 : ¬ gg = 0 := by omega
  have hz3 : ¬ (gg : Int) = 0 := by omega
  have e3 : IntKind.i64.wrap (qu : Int) = (qu : Int) := IntWalk.i64_in _ (by omega)
  have e4 : IntKind.i64.wrap (qv : Int) = (qv : Int) := IntWalk.i64_in _ (by omega)
  have HQ := lH_ (show u / gg = qu ∧ v / gg = qv from ⟨hqu, hqv⟩)
  clear hq1 hq2 hqu hqv
  go_upto_region 11 with fail
  go_still_tail 9, (by kernel_rfl)
  change wpList _ _ _ _ _ w5.drew
  have Z6 := lH_ Z5.out.drew
  have HB6 := lH_ (bdrew HB5.out)
  clear s0 s1 S5 Z5 HB5 e1 e2 e3 e4 hz hz2 hz3
  generalize w5.drew = w6 at *
  have z0 := Z6.out.cell 0
  have z1 := Z6.out.cell 1
  simp only [gA_, gZ_, gS_] at z0 z1
  have y0 := Z6.out.frozen 0
  have y1 := Z6.out.frozen 1
  go_wp2_with fail
  refine bodyPost_ret (res_c (g := g4) rfl _ _ _ _ _ rfl ((Z6.out.put 0 (.int .i64 (qu : Int)) rfl).put 1 (.int .i64 (qv : Int)) rfl) rfl hu48 (by kernel_rfl)) rfl ⟨?_, bset (bset HB6.out GE4.out 0 _) GE4.out 1 _⟩
  rw [HN.out, HD.out, ← HQ.out.1, ← HQ.out.2, Int.natCast_ediv, Int.natCast_ediv]
  rfl
 ·have d1 : (b == 0) = false := by simpa using h1
  by_cases h2 : n = b
  ·have d2 : (n == b) = true := by simpa using h2
   have EU : Hid ((1 : Int) = (u : Int)) := lH_ (by have h := HSN.out; rw [if_pos (.inr h2)] at h; exact h.symm)
   have EV : Hid ((1 : Int) = (v : Int)) := lH_ (by have h := HSD.out; rw [if_pos (.inr h2)] at h; exact h.symm)
   clear HSN HSD h1 h2
   go_upto_region 10 with fail
   clear d1 d2
   have S4 := lH_ (show Blk _ g5 #[.int .i64 1, .int .i64 1] 48 from S3.out.put 0 (.int .i64 1) rfl)
   have Z4 := lH_ (Z3.out.far N45.out 0 (.int .i64 1))
   have HB4 := lH_ (bset HBb.out GE5.out 0 (.int .i64 1))
   generalize World.setCell _ _ _ = w4 at *
   replace S4 : Hid (Blk w4 g5 #[.int .i64 (u : Int), .int .i64 (v : Int)] 48) := lH_ (by rw [← EU.out, ← EV.out]; exact S4.out)
   clear t0 t1 t2 s0 s1 f0 f1 EU EV T3
   have s0 := S4.out.cell 0
   have s1 := S4.out.cell 1
   simp only [gA_, gZ_, gS_] at s0 s1
   go_wp2_with fail
   refine (divisor_any u v w4 (by omega) (by omega)).mono ?_
   rintro e w5 ⟨rfl, nq, rfl⟩
   rw [HGG.out]
   have S5 := lH_ (S4.out.drewN nq)
   have Z5 := lH_ (Z4.out.drewN nq)
   have HB5 := lH_ (bdrewN HB4.out nq)
   clear s0 s1 S4 Z4 HB4
   generalize w4.drewN nq = w5 at *
   have s0 := S5.out.cell 0
   have s1 := S5.out.cell 1
   simp only [gA_, gZ_, gS_] at s0 s1
   have hq1 := Nat.div_le_self u gg
   have hq2 := Nat.div_le_self v gg
   obtain ⟨qu, hqu⟩ : ∃ q, u / gg = q := ⟨_, rfl⟩
   obtain ⟨qv, hqv⟩ : ∃ q, v / gg = q := ⟨_, rfl⟩
   rw [hqu] at hq1
   rw [hqv] at hq2
   have e1 : ((u : Int)).tdiv (gg : Int) = (qu : Int) := by rw [← hqu]; rfl
   have e2 : ((v : Int)).tdiv (gg : Int) = (qv : Int) := by rw [← hqv]; rfl
   have hz : ((gg : Int) == 0) = false := beq_eq_false_iff_ne.2 (by omega)
   have hz2 : ¬ gg = 0 := by omega
   have hz3 : ¬ (gg : Int) = 0 := by omega
   have e3 : IntKind.i64.wrap (qu : Int) = (qu : Int) := IntWalk.i64_in _ (by omega)
   have e4 : IntKind.i64.wrap (qv : Int) = (qv : Int) := IntWalk.i64_in _ (by omega)
   have HQ := lH_ (show u / gg = qu ∧ v / gg = qv from ⟨hqu, hqv⟩)
   clear hq1 hq2 hqu hqv
   go_upto_region 11 with fail
   go_still_tail 9, (by kernel_rfl)
   change wpList _ _ _ _ _ w5.drew
   have Z6 := lH_ Z5.out.drew
   have HB6 := lH_ (bdrew HB5.out)
   clear s0 s1 S5 Z5 HB5 e1 e2 e3 e4 hz hz2 hz3
   generalize w5.drew = w6 at *
   have z0 := Z6.out.cell 0
   have z1 := Z6.out.cell 1
   simp only [gA_, gZ_, gS_] at z0 z1
   have y0 := Z6.out.frozen 0
   have y1 := Z6.out.frozen 1
   go_wp2_with fail
   refine bodyPost_ret (res_c (g := g4) rfl _ _ _ _ _ rfl ((Z6.out.put 0 (.int .i64 (qu : Int)) rfl).put 1 (.int .i64 (qv : Int)) rfl) rfl hu48 (by kernel_rfl)) rfl ⟨?_, bset (bset HB6.out GE4.out 0 _) GE4.out 1 _⟩
   rw [HN.out, HD.out, ← HQ.out.1, ← HQ.out.2, Int.natCast_ediv, Int.natCast_ediv]
   rfl
  ·have d2 : (n == b) = false := by simpa using h2
   have h12 : ¬ (b = 0 ∨ n = b) := by omega
   by_cases h3 : n ≤ a
   ·have d3 : decide (n ≤ a) = true := decide_eq_true h3
    have EU : Hid ((0 : Int) = (u : Int)) := lH_ (by have h := HSN.out; rw [if_neg h12, if_pos (.inl h3)] at h; exact h.symm)
    have EV : Hid ((1 : Int) = (v : Int)) := lH_ (by have h := HSD.out; rw [if_neg h12, if_pos (.inl h3)] at h; exact h.symm)
    clear HSN HSD h1 h2 h12 h3
    go_upto_region 10 with fail
    clear d1 d2 d3
    have S4 := S3
    have Z4 := Z3
    have HB4 := HBb
    generalize w3 = w4 at *
    replace S4 : Hid (Blk w4 g5 #[.int .i64 (u : Int), .int .i64 (v : Int)] 48) := lH_ (by rw [← EU.out, ← EV.out]; exact S4.out)
    clear t0 t1 t2 s0 s1 f0 f1 EU EV T3
    have s0 := S4.out.cell 0
    have s1 := S4.out.cell 1
    simp only [gA_, gZ_, gS_] at s0 s1
    go_wp2_with fail
    refine (divisor_any u v w4 (by omega) (by omega)).mono ?_
    rintro e w5 ⟨rfl, nq, rfl⟩
    rw [HGG.out]
    have S5 := lH_ (S4.out.drewN nq)
    have Z5 := lH_ (Z4.out.drewN nq)
    have HB5 := lH_ (bdrewN HB4.out nq)
    clear s0 s1 S4 Z4 HB4
    generalize w4.drewN nq = w5 at *
    have s0 := S5.out.cell 0
    have s1 := S5.out.cell 1
    simp only [gA_, gZ_, gS_] at s0 s1
    have hq1 := Nat.div_le_self u gg
    have hq2 := Nat.div_le_self v gg
    obtain ⟨qu, hqu⟩ : ∃ q, u / gg = q := ⟨_, rfl⟩
    obtain ⟨qv, hqv⟩ : ∃ q, v / gg = q := ⟨_, rfl⟩
    rw [hqu] at hq1
    rw [hqv] at hq2
    have e1 : ((u : Int)).tdiv (gg : Int) = (qu : Int) := by rw [← hqu]; rfl
    have e2 : ((v : Int)).tdiv (gg : Int) = (qv : Int) := by rw [← hqv]; rfl
    have hz : ((gg : Int) == 0) = false := beq_eq_false_iff_ne.2 (by omega)
    have hz2 : ¬ gg = 0 := by omega
    have hz3 : ¬ (gg : Int) = 0 := by omega
    have e3 : IntKind.i64.wrap (qu : Int) = (qu : Int) := IntWalk.i64_in _ (by omega)
    have e4 : IntKind.i64.wrap (qv : Int) = (qv : Int) := IntWalk.i64_in _ (by omega)
    have HQ := lH_ (show u / gg = qu ∧ v / gg = qv from ⟨hqu, hqv⟩)
    clear hq1 hq2 hqu hqv
    go_upto_region 11 with fail
    go_still_tail 9, (by kernel_rfl)
    change wpList _ _ _ _ _ w5.drew
    have Z6 := lH_ Z5.out.drew
    have HB6 := lH_ (bdrew HB5.out)
    clear s0 s1 S5 Z5 HB5 e1 e2 e3 e4 hz hz2 hz3
    generalize w5.drew = w6 at *
    have z0 := Z6.out.cell 0
    have z1 := Z6.out.cell 1
    simp only [gA_, gZ_, gS_] at z0 z1
    have y0 := Z6.out.frozen 0
    have y1 := Z6.out.frozen 1
    go_wp2_with fail
    refine bodyPost_ret (res_c (g := g4) rfl _ _ _ _ _ rfl ((Z6.out.put 0 (.int .i64 (qu : Int)) rfl).put 1 (.int .i64 (qv : Int)) rfl) rfl hu48 (by kernel_rfl)) rfl ⟨?_, bset (bset HB6.out GE4.out 0 _) GE4.out 1 _⟩
    rw [HN.out, HD.out, ← HQ.out.1, ← HQ.out.2, Int.natCast_ediv, Int.natCast_ediv]
    rfl
   ·have d3 : decide (n ≤ a) = false := decide_eq_false h3
    by_cases h4 : c ≤ n
    ·have d4 : decide (c ≤ n) = true := decide_eq_true h4
     have EU : Hid ((0 : Int) = (u : Int)) := lH_ (by have h := HSN.out; rw [if_neg h12, if_pos (.inr h4)] at h; exact h.symm)
     have EV : Hid ((1 : Int) = (v : Int)) := lH_ (by have h := HSD.out; rw [if_neg h12, if_pos (.inr h4)] at h; exact h.symm)
     clear HSN HSD h1 h2 h12 h3 h4
     go_upto_region 10 with fail
     clear d1 d2 d3 d4
     have S4 := S3
     have Z4 := Z3
     have HB4 := HBb
     generalize w3 = w4 at *
     replace S4 : Hid (Blk w4 g5 #[.int .i64 (u : Int), .int .i64 (v : Int)] 48) := lH_ (by rw [← EU.out, ← EV.out]; exact S4.out)
     clear t0 t1 t2 s0 s1 f0 f1 EU EV T3
     have s0 := S4.out.cell 0
     have s1 := S4.out.cell 1
     simp only [gA_, gZ_, gS_] at s0 s1
     go_wp2_with fail
     refine (divisor_any u v w4 (by omega) (by omega)).mono ?_
     rintro e w5 ⟨rfl, nq, rfl⟩
     rw [HGG.out]
     have S5 := lH_ (S4.out.drewN nq)
     have Z5 := lH_ (Z4.out.drewN nq)
     have HB5 := lH_ (bdrewN HB4.out nq)
     clear s0 s1 S4 Z4 HB4
     generalize w4.drewN nq = w5 at *
     have s0 := S5.out.cell 0
     have s1 := S5.out.cell 1
     simp only [gA_, gZ_, gS_] at s0 s1
     have hq1 := Nat.div_le_self u gg
     have hq2 := Nat.div_le_self v gg
     obtain ⟨qu, hqu⟩ : ∃ q, u / gg = q := ⟨_, rfl⟩
     obtain ⟨qv, hqv⟩ : ∃ q, v / gg = q := ⟨_, rfl⟩
     rw [hqu] at hq1
     rw [hqv] at hq2
     have e1 : ((u : Int)).tdiv (gg : Int) = (qu : Int) := by rw [← hqu]; rfl
     have e2 : ((v : Int)).tdiv (gg : Int) = (qv : Int) := by rw [← hqv]; rfl
     have hz : ((gg : Int) == 0) = false := beq_eq_false_iff_ne.2 (by omega)
     have hz2 : ¬ gg = 0 := by omega
     have hz3 : ¬ (gg : Int) = 0 := by omega
     have e3 : IntKind.i64.wrap (qu : Int) = (qu : Int) := IntWalk.i64_in _ (by omega)
     have e4 : IntKind.i64.wrap (qv : Int) = (qv : Int) := IntWalk.i64_in _ (by omega)
     have HQ := lH_ (show u / gg = qu ∧ v / gg = qv from ⟨hqu, hqv⟩)
     clear hq1 hq2 hqu hqv
     go_upto_region 11 with fail
     go_still_tail 9, (by kernel_rfl)
     change wpList _ _ _ _ _ w5.drew
     have Z6 := lH_ Z5.out.drew
     have HB6 := lH_ (bdrew HB5.out)
     clear s0 s1 S5 Z5 HB5 e1 e2 e3 e4 hz hz2 hz3
     generalize w5.drew = w6 at *
     have z0 := Z6.out.cell 0
     have z1 := Z6.out.cell 1
     simp only [gA_, gZ_, gS_] at z0 z1
     have y0 := Z6.out.frozen 0
     have y1 := Z6.out.frozen 1
     go_wp2_with fail
     refine bodyPost_ret (res_c (g := g4) rfl _ _ _ _ _ rfl ((Z6.out.put 0 (.int .i64 (qu : Int)) rfl).put 1 (.int .i64 (qv : Int)) rfl) rfl hu48 (by kernel_rfl)) rfl ⟨?_, bset (bset HB6.out GE4.out 0 _) GE4.out 1 _⟩
     rw [HN.out, HD.out, ← HQ.out.1, ← HQ.out.2, Int.natCast_ediv, Int.natCast_ediv]
     rfl
    ·have d4 : decide (c ≤ n) = false := decide_eq_false h4
     have h34 : ¬ (n ≤ a ∨ c ≤ n) := by omega
     by_cases h5 : n < b
     ·have d5 : decide (n < b) = true := decide_eq_true h5
      have EU : Hid ((n - a : Int) = (u : Int)) := lH_ (by have h := HSN.out; rw [if_neg h12, if_neg h34, if_pos h5] at h; exact h.symm)
      have EV : Hid ((b - a : Int) = (v : Int)) := lH_ (by have h := HSD.out; rw [if_neg h12, if_neg h34, if_pos h5] at h; exact h.symm)
      clear HSN HSD h1 h2 h12 h3 h4 h34 h5
      go_upto_region 10 with fail
      clear d1 d2 d3 d4 d5
      have S4 := lH_ (show Blk _ g5 #[.int .i64 (n - a), .int .i64 (b - a)] 48 from (S3.out.put 0 (.int .i64 (n - a)) rfl).put 1 (.int .i64 (b - a)) rfl)
      have Z4 := lH_ ((Z3.out.far N45.out 0 (.int .i64 (n - a))).far N45.out 1 (.int .i64 (b - a)))
      have HB4 := lH_ (bset (bset HBb.out GE5.out 0 (.int .i64 (n - a))) GE5.out 1 (.int .i64 (b - a)))
      generalize World.setCell _ _ _ = w4 at *
      replace S4 : Hid (Blk w4 g5 #[.int .i64 (u : Int), .int .i64 (v : Int)] 48) := lH_ (by rw [← EU.out, ← EV.out]; exact S4.out)
      clear t0 t1 t2 s0 s1 f0 f1 EU EV T3
      have s0 := S4.out.cell 0
      have s1 := S4.out.cell 1
      simp only [gA_, gZ_, gS_] at s0 s1
      go_wp2_with fail
      refine (divisor_any u v w4 (by omega) (by omega)).mono ?_
      rintro e w5 ⟨rfl, nq, rfl⟩
      rw [HGG.out]
      have S5 := lH_ (S4.out.drewN nq)
      have Z5 := lH_ (Z4.out.drewN nq)
      have HB5 := lH_ (bdrewN HB4.out nq)
      clear s0 s1 S4 Z4 HB4
      generalize w4.drewN nq = w5 at *
      have s0 := S5.out.cell 0
      have s1 := S5.out.cell 1
      simp only [gA_, gZ_, gS_] at s0 s1
      have hq1 := Nat.div_le_self u gg
      have hq2 := Nat.div_le_self v gg
      obtain ⟨qu, hqu⟩ : ∃ q, u / gg = q := ⟨_, rfl⟩
      obtain ⟨qv, hqv⟩ : ∃ q, v / gg = q := ⟨_, rfl⟩
      rw [hqu] at hq1
      rw [hqv] at hq2
      have e1 : ((u : Int)).tdiv (gg : Int) = (qu : Int) := by rw [← hqu]; rfl
      have e2 : ((v : Int)).tdiv (gg : Int) = (qv : Int) := by rw [← hqv]; rfl
      have hz : ((gg : Int) == 0) = false := beq_eq_false_iff_ne.2 (by omega)
      have hz2 : ¬ gg = 0 := by omega
      have hz3 : ¬ (gg : Int) = 0 := by omega
      have e3 : IntKind.i64.wrap (qu : Int) = (qu : Int) := IntWalk.i64_in _ (by omega)
      have e4 : IntKind.i64.wrap (qv : Int) = (qv : Int) := IntWalk.i64_in _ (by omega)
      have HQ := lH_ (show u / gg = qu ∧ v / gg = qv from ⟨hqu, hqv⟩)
      clear hq1 hq2 hqu hqv
      go_upto_region 11 with fail
      go_still_tail 9, (by kernel_rfl)
      change wpList _ _ _ _ _ w5.drew
      have Z6 := lH_ Z5.out.drew
      have HB6 := lH_ (bdrew HB5.out)
      clear s0 s1 S5 Z5 HB5 e1 e2 e3 e4 hz hz2 hz3
      generalize w5.drew = w6 at *
      have z0 := Z6.out.cell 0
      have z1 := Z6.out.cell 1
      simp only [gA_, gZ_, gS_] at z0 z1
      have y0 := Z6.out.frozen 0
      have y1 := Z6.out.frozen 1
      go_wp2_with fail
      refine bodyPost_ret (res_c (g := g4) rfl _ _ _ _ _ rfl ((Z6.out.put 0 (.int .i64 (qu : Int)) rfl).put 1 (.int .i64 (qv : Int)) rfl) rfl hu48 (by kernel_rfl)) rfl ⟨?_, bset (bset HB6.out GE4.out 0 _) GE4.out 1 _⟩
      rw [HN.out, HD.out, ← HQ.out.1, ← HQ.out.2, Int.natCast_ediv, Int.natCast_ediv]
      rfl
     ·have d5 : decide (n < b) = false := decide_eq_false h5
      have EU : Hid ((c - n : Int) = (u : Int)) := lH_ (by have h := HSN.out; rw [if_neg h12, if_neg h34, if_neg h5] at h; exact h.symm)
      have EV : Hid ((c - b : Int) = (v : Int)) := lH_ (by have h := HSD.out; rw [if_neg h12, if_neg h34, if_neg h5] at h; exact h.symm)
      clear HSN HSD h1 h2 h12 h3 h4 h34 h5
      go_upto_region 10 with fail
      clear d1 d2 d3 d4 d5
      have S4 := lH_ (show Blk _ g5 #[.int .i64 (c - n), .int .i64 (c - b)] 48 from (S3.out.put 0 (.int .i64 (c - n)) rfl).put 1 (.int .i64 (c - b)) rfl)
      have Z4 := lH_ ((Z3.out.far N45.out 0 (.int .i64 (c - n))).far N45.out 1 (.int .i64 (c - b)))
      have HB4 := lH_ (bset (bset HBb.out GE5.out 0 (.int .i64 (c - n))) GE5.out 1 (.int .i64 (c - b)))
      generalize World.setCell _ _ _ = w4 at *
      replace S4 : Hid (Blk w4 g5 #[.int .i64 (u : Int), .int .i64 (v : Int)] 48) := lH_ (by rw [← EU.out, ← EV.out]; exact S4.out)
      clear t0 t1 t2 s0 s1 f0 f1 EU EV T3
      have s0 := S4.out.cell 0
      have s1 := S4.out.cell 1
      simp only [gA_, gZ_, gS_] at s0 s1
      go_wp2_with fail
      refine (divisor_any u v w4 (by omega) (by omega)).mono ?_
      rintro e w5 ⟨rfl, nq, rfl⟩
      rw [HGG.out]
      have S5 := lH_ (S4.out.drewN nq)
      have Z5 := lH_ (Z4.out.drewN nq)
      have HB5 := lH_ (bdrewN HB4.out nq)
      clear s0 s1 S4 Z4 HB4
      generalize w4.drewN nq = w5 at *
      have s0 := S5.out.cell 0
      have s1 := S5.out.cell 1
      simp only [gA_, gZ_, gS_] at s0 s1
      have hq1 := Nat.div_le_self u gg
      have hq2 := Nat.div_le_self v gg
      obtain ⟨qu, hqu⟩ : ∃ q, u / gg = q := ⟨_, rfl⟩
      obtain ⟨qv, hqv⟩ : ∃ q, v / gg = q := ⟨_, rfl⟩
      rw [hqu] at hq1
      rw [hqv] at hq2
      have e1 : ((u : Int)).tdiv (gg : Int) = (qu : Int) := by rw [← hqu]; rfl
      have e2 : ((v : Int)).tdiv (gg : Int) = (qv : Int) := by rw [← hqv]; rfl
      have hz : ((gg : Int) == 0) = false := beq_eq_false_iff_ne.2 (by omega)
      have hz2 : ¬ gg = 0 := by omega
      have hz3 : ¬ (gg : Int) = 0 := by omega
      have e3 : IntKind.i64.wrap (qu : Int) = (qu : Int) := IntWalk.i64_in _ (by omega)
      have e4 : IntKind.i64.wrap (qv : Int) = (qv : Int) := IntWalk.i64_in _ (by omega)
      have HQ := lH_ (show u / gg = qu ∧ v / gg = qv from ⟨hqu, hqv⟩)
      clear hq1 hq2 hqu hqv
      go_upto_region 11 with fail
      go_still_tail 9, (by kernel_rfl)
      change wpList _ _ _ _ _ w5.drew
      have Z6 := lH_ Z5.out.drew
      have HB6 := lH_ (bdrew HB5.out)
      clear s0 s1 S5 Z5 HB5 e1 e2 e3 e4 hz hz2 hz3
      generalize w5.drew = w6 at *
      have z0 := Z6.out.cell 0
      have z1 := Z6.out.cell 1
      simp only [gA_, gZ_, gS_] at z0 z1
      have y0 := Z6.out.frozen 0
      have y1 := Z6.out.frozen 1
      go_wp2_with fail
      refine bodyPost_ret (res_c (g := g4) rfl _ _ _ _ _ rfl ((Z6.out.put 0 (.int .i64 (qu : Int)) rfl).put 1 (.int .i64 (qv : Int)) rfl) rfl hu48 (by kernel_rfl)) rfl ⟨?_, bset (bset HB6.out GE4.out 0 _) GE4.out 1 _⟩
      rw [HN.out, HD.out, ← HQ.out.1, ← HQ.out.2, Int.natCast_ediv, Int.natCast_ediv]
      rfl
/- axes.zip of tents and numbers, ranged over. -/
def zv (x : I3 × Int) : Array Value := #[.agg #[.int .i64 x.1.a, .int .i64 x.1.b, .int .i64 x.1.c], .int .i64 x.2]
theorem zip_any (A : Option Addr) (n c : Nat) (B : Option Addr) (m d : Nat) (w : World) : Calls Try.prog 39 #[.slice A n c, .slice B m d] w fun e w' => e = .returned (.func (.func 75) #[] #[.pointer (some ⟨w.heap.size, 0, none⟩), .pointer (some ⟨w.heap.size + 1, 0, none⟩)]) ∧ w' = (w.alloc (.cells #[.slice A n c] 44)).alloc (.cells #[.slice B m d] 30) := by
 go_enter Try.func39, Try.ntmps39
 go_wp2
 go_ret
 exact ⟨rfl, rfl⟩
theorem zip_at (ts : List I3) (ns : List Int) (k : Nat) (h : k < ts.length) (h2 : k < ns.length) : (ts.zip ns).take (k + 1) = (ts.zip ns).take k ++ [(ts.getD k zI3, ns.getD k 0)] := by
 rw [List.take_succ_eq_append_getElem (by rw [List.length_zip]; omega), List.getElem_zip, List.getD_eq_getElem?_getD, List.getElem?_eq_getElem h, List.getD_eq_getElem?_getD, List.getElem?_eq_getElem h2]
 rfl
def Yd (J Jx : World → Prop) (K : World → World → Prop) (W : World) (b : Bool) (W' : World) : Prop := (b = true ∧ J W' ∧ K W W') ∨ (b = false ∧ Jx W')
theorem yd_of {J Jx : World → Prop} {K : World → World → Prop} {W W' : World} {e : Ending} (h : (e = .returned (.bool true) ∧ J W' ∧ K W W') ∨ (e = .returned (.bool false) ∧ Jx W')) : ∃ b, e = .returned (.bool b) ∧ Yd J Jx K W b W' := by
 rcases h with ⟨rfl, h1, h2⟩ | ⟨rfl, h1⟩
 ·exact ⟨true, rfl, .inl ⟨rfl, h1, h2⟩⟩
 ·exact ⟨false, rfl, .inr ⟨rfl, h1⟩⟩
theorem zip1_in (P : I3 × Int → Prop) (n l bA bB n0 : Nat) (G : Nat → Prop) (hn : 1 ≤ n) (ts : List I3) (ns : List Int) (A : Option Addr) (ca : Nat) (B : Option Addr) (cb : Nat) (hlen : ts.length = ns.length) (hl3 : ns.length ≤ 3) (W : World) (hn0 : n0 ≤ W.heap.size) (hGA : G bA) (hGB : G bB) (hP : ∀ k, k < ns.length → P (ts.getD k zI3, ns.getD k 0)) (J Jx : List {x : I3 × Int // P x} → World → Prop) (hJ : AbidesFrom W.heap.size J)
  (hY : ∀ pre x W1, J pre W1 → pre.length < ns.length → YieldAt Fence.wide (n - 1) Try.prog l (zv x.1) W1 fun e W' =>
   (e = .returned (.bool true) ∧ J (pre ++ [x]) W' ∧ KpG n0 G W1 W') ∨ (e = .returned (.bool false) ∧ Jx (pre ++ [x]) W'))
  (hcA : W.cell? ⟨bA, 0, none⟩ = some (.slice A ns.length ca)) (hcB : W.cell? ⟨bB, 0, none⟩ = some (.slice B ns.length cb)) (hCA : ∀ W', KpG n0 G W W' → Kd.C kI3 W' A ts.length ts) (hCB : ∀ W', KpG n0 G W W' → Kd.C kI W' B ns.length ns) (h0 : J [] W) :
  CallsIn Fence.wide n Try.prog 75 #[.func (.yield l) #[] #[], .pointer (some ⟨bA, 0, none⟩), .pointer (some ⟨bB, 0, none⟩)] W fun e W' => (∃ v, e = .returned v) ∧
   ((∃ ys : List {x : I3 × Int // P x}, ys.map (·.1) = ts.zip ns ∧ J ys W') ∨ (∃ pre : List {x : I3 × Int // P x}, (∃ k, k ≤ ns.length ∧ pre.map (·.1) = (ts.zip ns).take k) ∧ Jx pre W')) := by
 have HJ := lH_ hJ
 have HY := lH_ hY
 have HCA := lH_ hCA
 have HCB := lH_ hCB
 have HLEN := lH_ hlen
 clear hJ hY hCA hCB hlen
 refine callsIn_of_wp Try.func75 rfl trivial ?_ rfl
 simp only [Try.ntmps75, List.size_toArray, List.length_cons, List.length_nil, Nat.reduceAdd, Nat.reduceSub, Array.replicate_succ, Array.replicate_zero, List.push_toArray, List.append_toArray, List.nil_append, List.cons_append]
 gi_wp2
 gi_loopw [10] (fun i wr => ∃ (k : Nat) (ys : List {x : I3 × Int // P x}), k ≤ ns.length ∧ i = .int .i64 k ∧ Hid (ys.map (·.1) = (ts.zip ns).take k) ∧ Hid (J ys wr) ∧ Hid (KpG n0 G W wr)) (fun i _ => ns.length - (intOf i).toNat)
 case atStart => exact ⟨0, [], Nat.zero_le _, rfl, lH_ rfl, lH_ h0, lH_ (KpG.refl _ _ _)⟩
 case round =>
 obtain ⟨k, ys, hk, rfl, HYS, HJs, HB⟩ := hrel
 by_cases hlt : k < ns.length
 case neg =>
  obtain rfl : k = ns.length := by omega
  gi_wp2
  go_end0
  exact ⟨⟨_, rfl⟩, .inl ⟨ys, by rw [HYS.out]; exact List.take_of_length_le (by rw [List.length_zip]; omega), HJs.out⟩⟩
 have hbA : wr.cell? ⟨bA, 0, none⟩ = some (.slice A ns.length ca) := HB.out.cell hGA hcA
 have hbB : wr.cell? ⟨bB, 0, none⟩ = some (.slice B ns.length cb) := HB.out.cell hGB hcB
 obtain ⟨ad, c0, c1, c2, rfl, hK, g0, g1, g2⟩ := el3 (d := kI3) rfl (HCA.out wr HB.out) zI3 k (by have := HLEN.out; omega)
 have hk' := kI3_open hK
 simp only [List.cons.injEq, and_true] at hk'
 obtain ⟨rfl, rfl, rfl⟩ := hk'
 obtain ⟨ae, e0, rfl, hK2, g3⟩ := el1 (d := kI) rfl (HCB.out wr HB.out) 0 k hlt
 have hk2 : [e0] = [Value.int .i64 (ns.getD k 0)] := hK2
 obtain rfl : e0 = _ := List.head_eq_of_cons_eq hk2
 have HZ := lH_ (zip_at ts ns k (by have := HLEN.out; omega) hlt)
 have hcapB : (k : Int) < ns.length := by omega
 have HPL := lH_ (show ys.length < ns.length by have := congrArg List.length HYS.out; rw [List.length_map, List.length_take] at this; omega)
 have HPX := lH_ (hP k hlt)
 have hcA' := lH_ hcA
 have hcB' := lH_ hcB
 clear hK hK2 hk2 hcA hcB
 generalize ts.getD k zI3 = t at *
 generalize ns.getD k 0 = m at *
 gi_upto_region 3 with fail
 obtain ⟨fn, tmps, assign, body, hy, hR⟩ := HY.out ys ⟨(t, m), HPX.out⟩ wr.drew (J_below HJ.out HJs.out (below_drew (Below.refl _ _))) HPL.out
 unfold zv at hy
 dsimp only at hy
 have HR := lH_ hR
 clear hR
 gi_region_with ((refine HR.out.mono ?_); intro e W3 hhh; obtain ⟨b, rfl, hyd⟩ := yd_of hhh; clear hhh)
 all_goals
  have HDW := lH_ (KpG.of (G := G) (below_drew (Below.refl wr.heap.size wr)) (Nat.le_trans hn0 HB.out.below.size))
  clear hy g0 g1 g2 g3 hbA hbB
  rcases hyd with ⟨rfl, hJ3, hk3⟩ | ⟨rfl, hJx3⟩
  ·have HJ3 := lH_ hJ3
   have HK3 := lH_ ((HB.out.trans HDW.out).trans hk3)
   clear hJ3 hk3
   gi_wp2
   exact ⟨⟨k + 1, ys ++ [⟨(t, m), HPX.out⟩], by omega, by go_num, lH_ (by rw [HZ.out, List.map_append, HYS.out]; rfl), HJ3, HK3⟩, by simp [intOf]; omega⟩
  ·have HJx3 := lH_ hJx3
   clear hJx3
   gi_wp2
   refine bodyPost_ret (results_none rfl _ _ _) rfl ?_
   exact ⟨⟨_, rfl⟩, .inr ⟨_, ⟨k + 1, by omega, by rw [HZ.out, List.map_append, HYS.out]; rfl⟩, HJx3.out⟩⟩
theorem zip_stops (P : I3 × Int → Prop) (n bA bB n0 : Nat) (G : Nat → Prop) (hn : 1 ≤ n) (ts : List I3) (ns : List Int) (A : Option Addr) (ca : Nat) (B : Option Addr) (cb : Nat) (hlen : ts.length = ns.length) (hl3 : ns.length ≤ 3) (w : World) (hn0 : n0 ≤ w.heap.size) (hGA : G bA) (hGB : G bB) (hP : ∀ k, k < ns.length → P (ts.getD k zI3, ns.getD k 0))
  (hcA : w.cell? ⟨bA, 0, none⟩ = some (.slice A ns.length ca)) (hcB : w.cell? ⟨bB, 0, none⟩ = some (.slice B ns.length cb)) (hCA : ∀ W', KpG n0 G w W' → Kd.C kI3 W' A ts.length ts) (hCB : ∀ W', KpG n0 G w W' → Kd.C kI W' B ns.length ns) :
  SeqStopsK Fence.wide n Try.prog 75 #[.pointer (some ⟨bA, 0, none⟩), .pointer (some ⟨bB, 0, none⟩)] (fun x : {x : I3 × Int // P x} => zv x.1) (KpG n0 G) (fun ys => ys.map (·.1) = ts.zip ns) (fun pre => ∃ k, k ≤ ns.length ∧ pre.map (·.1) = (ts.zip ns).take k) ns.length w := fun l J Jx W hW hJ _ hY h0 => by
 have hK : KpG n0 G w W := KpG.of hW hn0
 exact zip1_in P n l bA bB n0 G hn ts ns A ca B cb hlen hl3 W (Nat.le_trans hn0 hW.size) hGA hGB hP J Jx hJ hY (hK.cell hGA hcA) (hK.cell hGB hcB) (fun W' h' => hCA W' (hK.trans h')) (fun W' h' => hCB W' (hK.trans h')) h0
/- axes.Scalar. -/
attribute [local go_sem] Oper.semAt_some
def scStep (s : I2) (x : I3 × Int) : I2 := ⟨timesN s.a s.b (strN x.1 x.2) (strD x.1 x.2), timesD s.a s.b (strN x.1 x.2) (strD x.1 x.2)⟩
def scP (l : List (I3 × Int)) : I2 := l.foldl scStep ⟨1, 1⟩
def sclB (r : List I3) (ns : List Int) : I2 := if regB r ns.length = true ∧ coordsB ns = true then scP (r.zip ns) else ⟨0, 1⟩
theorem scP_snoc (l : List (I3 × Int)) (x : I3 × Int) : scP (l ++ [x]) = scStep (scP l) x := by simp [scP, List.foldl_append]
theorem reg_all {r : List I3} {n : Nat} (h : regB r n = true) : r.length = n ∧ ∀ k, k < r.length → tentB (r.getD k zI3) = true := by
 unfold regB at h
 simp only [Bool.and_eq_true, decide_eq_true_eq, Bool.not_eq_true', List.any_eq_false] at h
 refine ⟨by omega, fun k hk => ?_⟩
 have := h.2.2.2 _ (getD_at hk zI3)
 simpa using this
theorem coords_all {ns : List Int} (h : coordsB ns = true) : ns.length ≤ 3 ∧ ∀ k, k < ns.length → coordB (ns.getD k 0) = true := by
 unfold coordsB at h
 simp only [Bool.and_eq_true, decide_eq_true_eq, Bool.not_eq_true', List.any_eq_false] at h
 refine ⟨by omega, fun k hk => ?_⟩
 have := h.2 _ (getD_at hk 0)
 simpa using this
theorem Blk_turn {W W' : World} {g : Nat} {cs : Array Value} {t : TypeId} (h : Blk W g cs t) {row : Option Nat} (hg : W.grownBy W' row) (hr : ∀ r, row = some r → ∃ o : Obj, W.heap[r]? = some o ∧ o.isCells = false) : Blk W' g cs t :=
 (hg.block g h.lt (by
  intro e
  obtain ⟨o, ho, hc⟩ := hr g e.symm
  unfold Blk at h
  rw [ho] at h
  cases h; cases hc)).trans h
theorem keeps_below {W W' : World} (h : Below W.heap.size W W') : KeepsOthers W W' := ⟨h.size, fun k o hk _ => (h.block k (Array.getElem?_eq_some_iff.1 hk).1).trans hk⟩
theorem KpG.set {n0 : Nat} {G : Nat → Prop} {W : World} {g : Nat} (hg : n0 ≤ g) (hn : ¬ G g) (j : Nat) (v : Value) : KpG n0 G W (W.setCell ⟨g, j, none⟩ v) :=
 ⟨(Below.refl n0 W).setCell hg v, fun g' hg' o _ e => (Below.heap_setCell W ⟨g, j, none⟩ v g' (fun h => hn (by have h' : g' = g := h; rw [← h']; exact hg'))).trans e⟩
structure InScl (w0 : World) (g4 g5 gA gB : Nat) (A : Option Addr) (n c : Nat) (B : Option Addr) (m d : Nat) (s : I2) (W : World) : Prop where
 res : Blk W g4 #[.int .i64 0, .int .i64 0] 48
 box : Blk W g5 #[.int .i64 s.a, .int .i64 s.b] 48
 bA : Blk W gA #[.slice A n c] 44
 bB : Blk W gB #[.slice B m d] 30
 below : Below w0.heap.size w0 W
theorem InScl.turn {w0 : World} {g4 g5 gA gB : Nat} {A : Option Addr} {n c : Nat} {B : Option Addr} {m d : Nat} {s : I2} {W W' : World} {N : Nat} (h : InScl w0 g4 g5 gA gB A n c B m d s W) (hN : w0.heap.size ≤ N) {row : Option Nat} (hg : W.grownBy W' row) (hr : ∀ r, row = some r → N ≤ r ∧ ∃ o : Obj, W.heap[r]? = some o ∧ o.isCells = false) : InScl w0 g4 g5 gA gB A n c B m d s W' where
 res := Blk_turn h.res hg (fun r e => (hr r e).2)
 box := Blk_turn h.box hg (fun r e => (hr r e).2)
 bA := Blk_turn h.bA hg (fun r e => (hr r e).2)
 bB := Blk_turn h.bB hg (fun r e => (hr r e).2)
 below := ownFrom_below (β := Unit) (Nat.le_refl _) hN () W W' row h.below hg hr
theorem InScl.below_ {w0 : World} {g4 g5 gA gB : Nat} {A : Option Addr} {n c : Nat} {B : Option Addr} {m d : Nat} {s : I2} {W W' : World} (h : InScl w0 g4 g5 gA gB A n c B m d s W) (hb : Below W.heap.size W W') : InScl w0 g4 g5 gA gB A n c B m d s W' :=
 ⟨h.res.below hb, h.box.below hb, h.bA.below hb, h.bB.below hb, bthen' h.below hb⟩
theorem scl_leaves {w0 : World} {g : Nat} {W : World} {a b : Int} (hB : Blk W g #[.int .i64 a, .int .i64 b] 48) (hb : Below w0.heap.size w0 W) (Ds : List Nat) (hM : Marks w0.heap.size W Ds) (hg : g ∉ Ds) (tmps : Array Value) (h4 : tmps.getD 4 undef = .pointer (some ⟨g, 0, none⟩)) :
  LeavesInM Fence.wide 3 Try.prog Try.f13 tmps (fun e w' => e = .returned (.agg #[.int .i64 a, .int .i64 b]) ∧ Below w0.heap.size w0 w') (Ds.map mark) .returning W := by
 refine leaves_marks Ds _ hM (fun w' hb' hs => ⟨.agg #[.int .i64 a, .int .i64 b], ?_, rfl, hb.trans hb'⟩)
 have hB' : Blk w' g #[.int .i64 a, .int .i64 b] 48 := (hs g hg).trans hB
 exact res_c rfl tmps w' g _ _ _ h4 hB' rfl Try.underlying48 (by kernel_rfl)
theorem scalar_any (r : List I3) (A : Option Addr) (c : Nat) (ns : List Int) (B : Option Addr) (d : Nat) (w : World) (hC : Kd.C kI3 w A r.length r) (hD : Kd.C kI w B ns.length ns) :
  Calls Try.prog 13 #[.agg #[.slice A r.length c], .slice B ns.length d] w fun e w' => e = .returned (.agg #[.int .i64 (sclB r ns).a, .int .i64 (sclB r ns).b]) ∧ Below w.heap.size w w' := by
 refine callsIn_wide.1 (callsIn_of_wp_marks (n := 3) Try.func13 rfl trivial (wpIn_wide.2 ?_) rfl)
 simp only [Try.ntmps13, List.size_toArray, List.length_cons, List.length_nil, Nat.reduceAdd, Nat.reduceSub, Array.replicate_succ, Array.replicate_zero, List.push_toArray, List.append_toArray, List.nil_append, List.cons_append]
 have HC := lH_ hC
 have HD := lH_ hD
 have hmn : ns.length ≤ 9223372036854775807 := hD.2.1
 clear hC hD
 go_upto_region 1 with fail
 obtain ⟨w1, g2, hw, hg, R1, HB1, _⟩ := new_box w #[.slice A r.length c] 46
 obtain ⟨w2, g4, hw', hg', Z2, HB2, _⟩ := new_box w1 #[.int .i64 0, .int .i64 0] 48
 have eg : g2 + 1 = g4 := by rw [← hg', ← hw, World.size_alloc, hg]
 rw [hw, hg, hw', eg]
 have R2 := lH_ (R1.out.below HB2.out)
 have HBa := lH_ (bthen' HB1.out HB2.out)
 have GE4 := lH_ (show w.heap.size ≤ g4 by omega)
 clear hw hg hw' hg' eg R1 HB1 HB2
 have r0 : w2.cell? ⟨g2, 0, none⟩ = some (.slice A r.length c) := R2.out.cell 0
 go_wp2_with fail
 refine (reg_any r ns.length A c w2 (Kd.C_below HC.out HBa.out)).mono ?_
 rintro e w3 ⟨rfl, hb⟩
 have R3 := lH_ (R2.out.below hb)
 have Z3 := lH_ (Z2.out.below hb)
 have HBb := lH_ (bthen' HBa.out hb)
 clear hb r0 R2 Z2 HBa
 have HSC : Hid (sclB r ns = if regB r ns.length = true ∧ coordsB ns = true then scP (r.zip ns) else ⟨0, 1⟩) := lH_ rfl
 have hr : regB r ns.length = true ∨ regB r ns.length = false := by cases regB r ns.length <;> simp
 rcases hr with hr | hr
 case inr =>
  have HE : Hid (sclB r ns = ⟨0, 1⟩) := lH_ (by rw [HSC.out, if_neg (by rw [hr]; simp)])
  rw [hr]
  have z0 := Z3.out.cell 0
  have z1 := Z3.out.cell 1
  have y0 := Z3.out.frozen 0
  have y1 := Z3.out.frozen 1
  simp only [gA_, gZ_, gS_] at z0 z1
  clear hr
  go_wp2_with fail
  rw [HE.out]
  exact scl_leaves ((Z3.out.put 0 (.int .i64 0) rfl).put 1 (.int .i64 1) rfl) (bset (bset HBb.out GE4.out 0 _) GE4.out 1 _) [] (Marks.nil _ _) (by simp) _ rfl
 have HR := lH_ hr
 rw [hr]
 clear hr
 go_wp2_with fail
 refine (coords_any ns B d w3 (Kd.C_below HD.out HBb.out)).mono ?_
 rintro e w4 ⟨rfl, hb⟩
 have R4 := lH_ (R3.out.below hb)
 have Z4 := lH_ (Z3.out.below hb)
 have HBc := lH_ (bthen' HBb.out hb)
 clear hb R3 Z3 HBb
 have hr : coordsB ns = true ∨ coordsB ns = false := by cases coordsB ns <;> simp
 rcases hr with hr | hr
 case inr =>
  have HE : Hid (sclB r ns = ⟨0, 1⟩) := lH_ (by rw [HSC.out, if_neg (by rw [hr]; simp)])
  rw [hr]
  have z0 := Z4.out.cell 0
  have z1 := Z4.out.cell 1
  have y0 := Z4.out.frozen 0
  have y1 := Z4.out.frozen 1
  simp only [gA_, gZ_, gS_] at z0 z1
  clear hr
  go_wp2_with fail
  rw [HE.out]
  exact scl_leaves ((Z4.out.put 0 (.int .i64 0) rfl).put 1 (.int .i64 1) rfl) (bset (bset HBc.out GE4.out 0 _) GE4.out 1 _) [] (Marks.nil _ _) (by simp) _ rfl
 have HCO := lH_ hr
 have HE : Hid (sclB r ns = scP (r.zip ns)) := lH_ (by rw [HSC.out, if_pos ⟨HR.out, HCO.out⟩])
 rw [hr]
 clear hr HSC
 go_upto_region 4 with fail
 obtain ⟨w5, g5, hw, hg, S5, HB5, _⟩ := new_box w4 #[.int .i64 1, .int .i64 1] 48
 rw [hw, hg]
 have R5 := lH_ (R4.out.below HB5.out)
 have Z5 := lH_ (Z4.out.below HB5.out)
 have HBd := lH_ (bthen' HBc.out HB5.out)
 have N45 := lH_ (show g4 ≠ g5 by have := Z4.out.lt; omega)
 have GE5 := lH_ (show w.heap.size ≤ g5 by have := HBc.out.size; omega)
 clear hw hg R4 Z4 HBc HB5
 have r0 : w5.cell? ⟨g2, 0, none⟩ = some (.slice A r.length c) := R5.out.cell 0
 go_wp2_with fail
 refine (zip_any A r.length c B ns.length d w5).mono ?_
 rintro e w6 ⟨rfl, rfl⟩
 obtain ⟨w6, gA, hw, hg, A6, HB6, _⟩ := new_box w5 #[.slice A r.length c] 44
 obtain ⟨w7, gB, hw', hg', B7, HB7, _⟩ := new_box w6 #[.slice B ns.length d] 30
 have eg : gA + 1 = gB := by rw [← hg', ← hw, World.size_alloc, hg]
 rw [hw, hg, hw', eg]
 have A7 := lH_ (A6.out.below HB7.out)
 have HB67 := lH_ (bthen' HB6.out HB7.out)
 have Z7 := lH_ (Z5.out.below HB67.out)
 have S7 := lH_ (S5.out.below HB67.out)
 have HBe := lH_ (bthen' HBd.out HB67.out)
 have NA := lH_ (show g5 ≠ gA by have := S5.out.lt; omega)
 have NB := lH_ (show g5 ≠ gB by have := S5.out.lt; omega)
 clear hw hg hw' hg' eg r0 R5 Z5 S5 HBd A6 HB6 HB7
 go_wp2_with fail
 have HQT := lH_ (reg_all HR.out)
 have HQC := lH_ (coords_all HCO.out)
 have HLN : Hid (r.length = ns.length) := lH_ HQT.out.1
 have hw7 : w.heap.size ≤ w7.heap.size := HBe.out.size
 refine wpIn_wide.1 (wpIn_rangeFunc_ownH (n := 3) (F := Fence.wide) rfl (by omega) (gf := 75) (lb := #[.pointer (some ⟨gA, 0, none⟩), .pointer (some ⟨gB, 0, none⟩)]) rfl trivial (enters_of Try.func75 (by kernel_rfl) rfl)
  (zip_stops (fun x => tentB x.1 = true ∧ coordB x.2 = true) 2 gA gB w.heap.size (fun g => g = gA ∨ g = gB) (by omega) r ns A c B d HLN.out HQC.out.1 w7 hw7 (.inl rfl) (.inr rfl) (fun k hk => ⟨HQT.out.2 k (by rw [HLN.out]; exact hk), HQC.out.2 k hk⟩) (by rw [← HLN.out]; exact A7.out.cell 0) (B7.out.cell 0) (fun W' hK => Kd.C_below HC.out (HBe.out.trans hK.below)) (fun W' hK => Kd.C_below HD.out (HBe.out.trans hK.below))) KpG.trans (KpG.putObj hw7) (Below.refl _ _) (fun _ => rfl)
  (fun pre W' => InScl w g4 g5 gA gB A r.length c B ns.length d (scP (pre.map (·.1))) W')
  (fun _ _ _ => False) ?hI (fun c s A B row h _ _ => h) ⟨Z7.out, S7.out, A7.out, B7.out, HBe.out⟩
  (fun x a' W' => ∃ Bx, Blk W' Bx #[.int .i64 x.1.1.a, .int .i64 x.1.1.b, .int .i64 x.1.1.c] 92 ∧ a' = { tmps := #[.agg #[.slice A r.length c], .slice B ns.length d, .pointer (some ⟨g2, 0, none⟩), undef, .pointer (some ⟨g4, 0, none⟩), .pointer (some ⟨g5, 0, none⟩), .pointer (some ⟨Bx, 0, none⟩), .int .i64 x.1.2, .agg #[.slice A r.length c], .slice B ns.length d, .int .i64 ns.length, .bool true, .bool false, .bool false, .slice B ns.length d, .bool true, .bool false, .bool false, undef, .agg #[.int .i64 1, .int .i64 1], .pointer (some ⟨g2, 0, none⟩), .slice A r.length c, .slice B ns.length d, .func (.func 75) #[] #[.pointer (some ⟨gA, 0, none⟩), .pointer (some ⟨gB, 0, none⟩)], .agg #[.int .i64 x.1.1.a, .int .i64 x.1.1.b, .int .i64 x.1.1.c], .int .i64 x.1.2, undef, undef, undef, undef, undef, undef, undef, undef, undef], defers := [] }) ?hAx ?assign ?body ?done ?stop)
 case hI =>
  rintro pre X Y row h hg hr
  exact h.turn hw7 hg hr
 case hAx =>
  rintro x a' s X Y row ⟨Bx, hB, e⟩ hg hr
  exact ⟨Bx, Blk_turn hB hg (fun r e => (hr r e).2), e⟩
 case assign =>
  rintro lp pre x W3 K h3 hK
  obtain ⟨⟨⟨x0, x1, x2⟩, y⟩, px⟩ := x
  have HK3 := lH_ hK
  clear hK
  unfold zv
  dsimp only
  gi_wp2
  refine HK3.out _ _ ((KeepsOthers.alloc _ _).from _) (KpG.of (balloc (Below.refl _ _) _) h3.below.size) (h3.below_ (balloc (Below.refl _ _) _)) ⟨W3.heap.size, Blk.new W3 _ _ rfl, rfl⟩
 case body =>
  rintro lp pre x a' W3 hlp ⟨rl, hrl⟩ h3 ⟨Bx, hBx, rfl⟩ hlen
  obtain ⟨⟨⟨x0, x1, x2⟩, y⟩, px⟩ := x
  have HSN : Hid (scP ((pre ++ [(⟨(⟨x0, x1, x2⟩, y), px⟩ : {x : I3 × Int // tentB x.1 = true ∧ coordB x.2 = true})]).map (·.1)) = scStep (scP (pre.map (·.1))) (⟨x0, x1, x2⟩, y)) := lH_ (by rw [List.map_append]; exact scP_snoc _ _)
  obtain ⟨s, hs⟩ : ∃ s, scP (pre.map (·.1)) = s := ⟨_, rfl⟩
  rw [hs] at h3 HSN
  obtain ⟨sa, sb⟩ := s
  have PT := lH_ px.1
  have PC := lH_ px.2
  have H3 := lH_ h3
  have HBX := lH_ hBx
  have s0 := h3.box.cell 0
  have s1 := h3.box.cell 1
  have b0 := hBx.cell 0
  have b1 := hBx.cell 1
  have b2 := hBx.cell 2
  dsimp only at s0 s1 b0 b1 b2 ⊢
  simp only [gA_, gZ_, gS_] at s0 s1 b0 b1 b2
  clear h3 hBx hs
  gi_wp2
  gi_region_with (first | (refine ⟨trivial, ?_⟩; refine (CallsIn.inRound lp (callsIn_wide.2 (strength_any ⟨x0, x1, x2⟩ y _ PT.out PC.out))).mono ?_; intro e W4 hh; obtain ⟨rfl, hb⟩ := hh; have i0 : W4.cell? ⟨g5, 0, none⟩ = some (.int .i64 sa) := (H3.out.box.drew.below hb).cell 0; have i1 : W4.cell? ⟨g5, 1, none⟩ = some (.int .i64 sb) := (H3.out.box.drew.below hb).cell 1; have HB4 := lH_ hb; clear hb) | ((refine ⟨trivial, ?_⟩; refine (CallsIn.inRound lp (callsIn_wide.2 (times_any sa sb (strN ⟨x0, x1, x2⟩ y) (strD ⟨x0, x1, x2⟩ y) _))).mono ?_; intro e W5 hh; obtain ⟨rfl, hb⟩ := hh; have HB5 := lH_ (bthen' HB4.out hb); have S5 := lH_ (H3.out.box.drew.below HB5.out); have j0 : W5.cell? ⟨g5, 0, none⟩ = some (.int .i64 sa) := S5.out.cell 0; have j1 : W5.cell? ⟨g5, 1, none⟩ = some (.int .i64 sb) := S5.out.cell 1; have y0 : W5.frozen? ⟨g5, 0, none⟩ = false := S5.out.frozen 0; have y1 : W5.frozen? ⟨g5, 1, none⟩ = false := S5.out.frozen 1; clear hb)))
  all_goals
   have HB35 := lH_ (bthen' (below_drew (Below.refl _ W3)) HB5.out)
   have HN := HSN.out
   have HQ := H3.out.below_ HB35.out
   have hn5 : ¬ (g5 = gA ∨ g5 = gB) := by rintro (h | h); exact NA.out h; exact NB.out h
   refine ⟨((keeps_below HB35.out).trans ((KeepsOthers.setCell _ _ _).trans (KeepsOthers.setCell _ _ _))).from _, (KpG.of HB35.out H3.out.below.size).trans ((KpG.set GE5.out hn5 0 _).trans (KpG.set GE5.out hn5 1 _)), ?_⟩
   show InScl w g4 g5 gA gB A r.length c B ns.length d (scP ((pre ++ [(⟨(⟨x0, x1, x2⟩, y), px⟩ : {x : I3 × Int // tentB x.1 = true ∧ coordB x.2 = true})]).map (·.1))) _
   rw [HN]
   exact ⟨(HQ.res.far N45.out 0 _).far N45.out 1 _, (HQ.box.put 0 _ rfl).put 1 _ rfl, (HQ.bA.far (Ne.symm NA.out) 0 _).far (Ne.symm NA.out) 1 _, (HQ.bB.far (Ne.symm NB.out) 0 _).far (Ne.symm NB.out) 1 _, bset (bset HQ.below GE5.out 0 _) GE5.out 1 _⟩
 case done =>
  rintro D ys W3 hD hys h3 hK
  have hz0 := h3.res.cell 0
  have hz1 := h3.res.cell 1
  have hs0 := h3.box.cell 0
  have hs1 := h3.box.cell 1
  have hy0 := h3.res.frozen 0
  have hy1 := h3.res.frozen 1
  simp only [gA_, gZ_, gS_] at hz0 hz1 hs0 hs1
  have HE2 : Hid (sclB r ns = scP (ys.map (·.1))) := lH_ (by rw [HE.out, ← hys])
  have HM : Hid (Marks w.heap.size W3 [D]) := lH_ ((Marks.nil w.heap.size W3).cons (by omega) hK (by simp))
  have HND : Hid (g4 ∉ [D]) := lH_ (by
   intro hm
   obtain rfl : g4 = D := by simpa using hm
   have := h3.res
   unfold Blk at this
   rw [hK] at this
   cases this)
  have H3 := lH_ h3
  clear h3 hys
  go_wp2_with fail
  rw [HE2.out]
  exact scl_leaves ((H3.out.res.put 0 (.int .i64 _) rfl).put 1 (.int .i64 _) rfl) (bset (bset H3.out.below GE4.out 0 _) GE4.out 1 _) [D] ((HM.out.setCell ⟨g4, 0, none⟩ _ ⟨_, H3.out.res, rfl⟩).setCell ⟨g4, 1, none⟩ _ ⟨_, H3.out.res.put 0 _ rfl, rfl⟩) HND.out _ rfl
 case stop =>
  rintro D c pre W3 _ _ h _
  exact h.elim
end Go.Proofs.Ythpccdhmppbkfaa
