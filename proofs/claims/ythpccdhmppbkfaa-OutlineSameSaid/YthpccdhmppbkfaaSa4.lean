/- OSum, OPlc, OAt2, OMap, OSpt, ONum, OPnt, OMp2, OSc1, OMp3, OScale: merged by wip/prune.py. -/
import Derived.Test.YthpccdhmppbkfaaSa3
/- outline's adder: what a delta gives to a number, and the sum. -/
set_option linter.unusedVariables false
set_option linter.unusedSimpArgs false
set_option maxRecDepth 100000
set_option maxHeartbeats 16000000
namespace Go.Proofs.Ythpccdhmppbkfaa
open Go.RowKit Go.Shelf Go.Proofs.YthpccdhmppbkfaaW.PrintWords Go.Proofs.YthpccdhmppbkfaaW.PrintLast Go.Proofs.YthpccdhmppbkfaaW.PrintMore
def oSum.T5 : Bool × List (List Nat × List Nat) := (true, [([], []), ([], []), ([0, 1], [0, 1]), ([], []), ([3], [3]), ([], []), ([4, 5], [4, 5]), ([6], [6]), ([2, 7, 2], [2, 7]), ([8], [8]), ([9], [9]), ([9], [9]), ([10, 8, 0, 1, 2, 3, 4, 5, 6, 7, 8, 9, 10], [10]), ([11, 12, 0, 1, 2, 3, 4, 5, 6, 7, 8, 9, 10, 11, 12], [11])])
def oSum.B5 : List Nat := [0, 0, 3, 0, 8, 0, 56, 120, 255, 511, 1023, 1023, 2047, 8191]
theorem oSum.tab5 : rtab .any (opsOf Try.f48 5) = oSum.T5 := by kernel_rfl
theorem oSum.bits5 : waitsOk oSum.T5.2 oSum.B5 = true := by kernel_rfl
theorem partQ_b (a n d : Int) : -67108864 ≤ partQ a n d ∧ partQ a n d ≤ 67108865 := by
 unfold partQ
 split
 ·rename_i h
  simp only [partOk, Bool.and_eq_true] at h
  obtain ⟨hs, hr⟩ := h
  have ha := sm_true.1 hs
  obtain ⟨h1, _, h2, h3, _⟩ := rightB_true.1 hr
  have e1 : 64 * a * n ≤ 67108864 * d := Int.le_trans (Int.mul_le_mul_of_nonneg_right (by omega : 64 * a ≤ 67108864) h2) (Int.mul_le_mul_of_nonneg_left h3 (by omega))
  have e2 : -67108864 * d ≤ 64 * a * n := Int.le_trans (by rw [Int.neg_mul, Int.neg_mul]; exact Int.neg_le_neg (Int.mul_le_mul_of_nonneg_left h3 (by omega))) (Int.mul_le_mul_of_nonneg_right (by omega : -67108864 ≤ 64 * a) h2)
  have q1 : 64 * a * n / d ≤ 67108864 := by
   have := Int.ediv_le_ediv (by omega : 0 < d) e1
   rwa [Int.mul_ediv_cancel _ (by omega)] at this
  have q2 : -67108864 ≤ 64 * a * n / d := by
   have := Int.ediv_le_ediv (by omega : 0 < d) e2
   rwa [Int.mul_ediv_cancel _ (by omega)] at this
  unfold rnd
  split <;> omega
 ·omega
theorem place1_any (d : Dl) (A : Option Addr) (c : Nat) (k b : Nat) (w : World) (hk : k < d.moves.length) (hC : Kd.C kI2 w A d.moves.length d.moves) (hb : w.cell? ⟨b, 0, none⟩ = some (.int .i64 k)) : Calls Try.prog 80 #[.agg #[.int .i64 d.region, .int .i64 d.adv, .slice A d.moves.length c], .pointer (some ⟨b, 0, none⟩)] w fun e w' => e = .returned (.int .i64 (d.moves.getD k zI2).a) ∧ Below w.heap.size w w' := by
 have hm : d.moves.length ≤ 9223372036854775807 := hC.2.1
 obtain ⟨ad, m0, m1, rfl, hK, q0, q1⟩ := el2 (d := kI2) rfl hC zI2 k hk
 have hk2 := kI2_open hK
 simp only [List.cons.injEq, and_true] at hk2
 obtain ⟨rfl, rfl⟩ := hk2
 generalize d.moves.getD k zI2 = mm at *
 obtain ⟨m0, m1⟩ := mm
 dsimp only at q0 q1
 have b0 : (0 : Int) ≤ (k : Int) := by omega
 have b1 : (k : Int) < (d.moves.length : Int) := by omega
 clear hK hC
 go_enter Try.func80, Try.ntmps80
 go_upto_region 1 with fail
 obtain ⟨w1, g, hw, hg, B, HB, FAR⟩ := new_box w #[.int .i64 d.region, .int .i64 d.adv, .slice (some ad) d.moves.length c] 59
 rw [hw, hg]
 clear hw hg
 have c2 := B.out.cell 2
 simp only [gA_, gZ_, gS_] at c2
 have x0 := pw_cell_below HB.out q0
 have x1 := pw_cell_below HB.out q1
 have x2 := pw_cell_below HB.out hb
 clear q0 q1 hb
 go_wp2_with fail
 go_ret
 exact ⟨rfl, HB.out⟩
theorem place2_any (d : Dl) (A : Option Addr) (c : Nat) (k b : Nat) (w : World) (hk : k < d.moves.length) (hC : Kd.C kI2 w A d.moves.length d.moves) (hb : w.cell? ⟨b, 0, none⟩ = some (.int .i64 k)) : Calls Try.prog 81 #[.agg #[.int .i64 d.region, .int .i64 d.adv, .slice A d.moves.length c], .pointer (some ⟨b, 0, none⟩)] w fun e w' => e = .returned (.int .i64 (d.moves.getD k zI2).b) ∧ Below w.heap.size w w' := by
 have hm : d.moves.length ≤ 9223372036854775807 := hC.2.1
 obtain ⟨ad, m0, m1, rfl, hK, q0, q1⟩ := el2 (d := kI2) rfl hC zI2 k hk
 have hk2 := kI2_open hK
 simp only [List.cons.injEq, and_true] at hk2
 obtain ⟨rfl, rfl⟩ := hk2
 generalize d.moves.getD k zI2 = mm at *
 obtain ⟨m0, m1⟩ := mm
 dsimp only at q0 q1
 have b0 : (0 : Int) ≤ (k : Int) := by omega
 have b1 : (k : Int) < (d.moves.length : Int) := by omega
 clear hK hC
 go_enter Try.func81, Try.ntmps81
 go_upto_region 1 with fail
 obtain ⟨w1, g, hw, hg, B, HB, FAR⟩ := new_box w #[.int .i64 d.region, .int .i64 d.adv, .slice (some ad) d.moves.length c] 59
 rw [hw, hg]
 clear hw hg
 have c2 := B.out.cell 2
 simp only [gA_, gZ_, gS_] at c2
 have x0 := pw_cell_below HB.out q0
 have x1 := pw_cell_below HB.out q1
 have x2 := pw_cell_below HB.out hb
 clear q0 q1 hb
 go_wp2_with fail
 go_ret
 exact ⟨rfl, HB.out⟩
theorem at3_any (d : Dl) (A : Option Addr) (c : Nat) (w : World) : Calls Try.prog 49 #[.agg #[.int .i64 d.region, .int .i64 d.adv, .slice A d.moves.length c]] w fun e w' => e = .returned (.int .i64 d.adv) ∧ Below w.heap.size w w' := by
 go_enter Try.func49, Try.ntmps49
 go_upto_region 1 with fail
 obtain ⟨w1, g, hw, hg, B, HB, _⟩ := new_box w #[.int .i64 d.region, .int .i64 d.adv, .slice A d.moves.length c] 59
 rw [hw, hg]
 clear hw hg
 have c1 := B.out.cell 1
 simp only [gA_, gZ_, gS_] at c1
 go_wp2_with fail
 go_ret
 exact ⟨rfl, HB.out⟩
theorem zip_take {α β : Type} (us : List α) (vs : List β) (k : Nat) (h : k < us.length) (h2 : k < vs.length) (za : α) (zb : β) : (us.zip vs).take (k + 1) = (us.zip vs).take k ++ [(us.getD k za, vs.getD k zb)] := by
 rw [List.take_succ_eq_append_getElem (by rw [List.length_zip]; omega), List.getElem_zip, List.getD_eq_getElem?_getD, List.getElem?_eq_getElem h, List.getD_eq_getElem?_getD, List.getElem?_eq_getElem h2]
 rfl
def sumB (bv : Dl → Int) (n : Int) (dl : List Dl) (sh : List I2) : Int := 64 * n + ((dl.zip sh).map fun x => partQ (bv x.1) x.2.a x.2.b).sum
def sumK (bv : Dl → Int) (n : Int) (dl : List Dl) (sh : List I2) (k : Nat) : Int := 64 * n + (((dl.zip sh).take k).map fun x => partQ (bv x.1) x.2.a x.2.b).sum
theorem sumK_at (bv : Dl → Int) (n : Int) (dl : List Dl) (sh : List I2) (k : Nat) (h : k < dl.length) (h2 : k < sh.length) : sumK bv n dl sh (k + 1) = sumK bv n dl sh k + partQ (bv (dl.getD k zDl)) (sh.getD k zI2).a (sh.getD k zI2).b := by
 unfold sumK
 rw [zip_take dl sh k h h2 zDl zI2, List.map_append, List.sum_append]
 simp
 omega
theorem sum_any (F : Nat) (caps : Array Value) (hcf : ∀ (x : Value) (W : World), (callFunc F (#[x] ++ caps)).run Try.prog W = .ok (.enter F (#[x] ++ caps)) W) (bv : Dl → Int) (n : Int) (dl : List Dl) (A : Option Addr) (c : Nat) (sh : List I2) (B : Option Addr) (c2 : Nat) (w : World) (hn : -1000000 ≤ n ∧ n ≤ 1000000) (hl : dl.length ≤ 1000000) (hlen : sh.length = dl.length) (hC : Kd.C kDl w A dl.length dl) (hS : Kd.C kI2 w B sh.length sh)
  (hf : ∀ j, j < dl.length → ∀ (Am : Option Addr) (cm : Nat), Kd.C kI2 w Am (dl.getD j zDl).moves.length (dl.getD j zDl).moves → ∀ w1, Below w.heap.size w w1 → Calls Try.prog F (#[.agg #[.int .i64 (dl.getD j zDl).region, .int .i64 (dl.getD j zDl).adv, .slice Am (dl.getD j zDl).moves.length cm]] ++ caps) w1 fun e w2 => e = .returned (.int .i64 (bv (dl.getD j zDl))) ∧ Below w1.heap.size w1 w2) :
  Calls Try.prog 48 #[.agg #[.slice A dl.length c, .slice B sh.length c2], .int .i64 n, .func (.func F) #[] caps] w fun e w' => e = .returned (.int .i64 (sumB bv n dl sh)) ∧ Below w.heap.size w w' := by
 have HC := lH_ hC
 have HS := lH_ hS
 have HF := lH_ hf
 have HE : Hid (sumB bv n dl sh = sumK bv n dl sh dl.length) := lH_ (by unfold sumB sumK; rw [List.take_of_length_le (by simp; omega)])
 have HLN := lH_ hlen
 have HCF := lH_ hcf
 clear hC hS hf hlen hcf
 go_enter Try.func48, Try.ntmps48
 go_upto_region 1 with fail
 obtain ⟨w1, g3, hw, hg, G, HX, _⟩ := new_box w #[.slice A dl.length c, .slice B sh.length c2] 103
 rw [hw, hg]
 clear hw hg
 have c0 := G.out.cell 0
 simp only [gA_, gZ_, gS_] at c0
 go_wp2_with fail
 clear c0
 go_loopw [7, 17] (fun s i wr => ∃ k : Nat, i = .int .i64 k ∧ k ≤ dl.length ∧ ∃ sk : Int, s = .int .i64 sk ∧ Hid (sk = sumK bv n dl sh k) ∧ Hid (-64000000 - (k : Int) * 67108865 ≤ sk ∧ sk ≤ 64000000 + (k : Int) * 67108865) ∧ Hid (Below w1.heap.size w1 wr)) (fun _ i _ => dl.length - (intOf i).toNat)
 case atStart => exact ⟨0, rfl, Nat.zero_le _, 64 * n, rfl, lH_ (by simp [sumK]), lH_ (by omega), lH_ (Below.refl _ _)⟩
 case round =>
  obtain ⟨k, rfl, hk, sk, rfl, HA, HZ, HBr⟩ := hrel
  by_cases hlt : k < dl.length
  ·have d1 : decide (k < dl.length) = true := decide_eq_true hlt
   obtain ⟨ad, c0, c1, c2', rfl, hK, p0, p1, p2⟩ := el3 (d := kDl) rfl HC.out zDl k hlt
   obtain ⟨Am, cm, hcs, hcm, hM⟩ := kDl_open hK
   simp only [List.cons.injEq, and_true] at hcs
   obtain ⟨rfl, rfl, rfl⟩ := hcs
   have HBX := lH_ (bthen' HX.out HBr.out)
   obtain ⟨bd, m0, m1, rfl, hK2, q0, q1⟩ := el2 (d := kI2) rfl HS.out zI2 k (by rw [HLN.out]; exact hlt)
   have hk2 := kI2_open hK2
   simp only [List.cons.injEq, and_true] at hk2
   obtain ⟨rfl, rfl⟩ := hk2
   have HSA := lH_ (sumK_at bv n dl sh k hlt (by rw [HLN.out]; exact hlt))
   have HFJ := lH_ (HF.out k hlt Am cm hM)
   replace p0 := pw_cell_below HBX.out p0
   replace p1 := pw_cell_below HBX.out p1
   replace p2 := pw_cell_below HBX.out p2
   replace q0 := pw_cell_below HBX.out q0
   replace q1 := pw_cell_below HBX.out q1
   generalize dl.getD k zDl = d at *
   obtain ⟨r, av, ms⟩ := d
   dsimp only at p0 p1 p2 hM hcm HFJ
   generalize sh.getD k zI2 = s2 at *
   obtain ⟨sn, sd⟩ := s2
   dsimp only at q0 q1 HSA
   generalize bv ⟨r, av, ms⟩ = bx at *
   obtain ⟨pq, hpq⟩ : ∃ v, partQ bx sn sd = v := ⟨_, rfl⟩
   obtain ⟨po, hpo⟩ : ∃ v, partOk bx sn sd = v := ⟨_, rfl⟩
   have hpb := partQ_b bx sn sd
   rw [hpq] at hpb HSA
   have PQ := aM_ hpq
   have PO := aM_ hpo
   have HPB := lH_ hpb
   have b0 : (0 : Int) ≤ (k : Int) := by omega
   have b1 : (k : Int) < (dl.length : Int) := by omega
   clear hK hK2 hM hpb hpq hpo
   go_upto_region 5 with fail
   obtain ⟨w2, g9, hw, hg, T2, HT, _⟩ := new_box wr #[.int .i64 r, .int .i64 av, .slice Am ms.length cm] 59
   rw [hw, hg]
   clear hw hg
   have HB2 := lH_ (bthen' HBr.out HT.out)
   have G2 := lH_ (G.out.below HB2.out)
   have S0 := aM_ (pw_cell_below HT.out q0)
   have S1 := aM_ (pw_cell_below HT.out q1)
   have Y0 := aM_ b0
   have Y1 := aM_ (show (k : Int) < (sh.length : Int) by rw [HLN.out]; exact b1)
   have HFK := lH_ (fun w1' (h : Below w2.heap.size w2 w1') => HFJ.out w1' (bthen' (bthen' HX.out HB2.out) h))
   have HLT := lH_ hlt
   have HKL := lH_ hk
   have HLL := lH_ hl
   clear p0 p1 p2 q0 q1 b0 b1 hlt hk hl hn d1 HBr
   refine start_ (n := 14) (S := fun w' => True) (ds := []) #[false, false, false, false, false, false, false, false, false, false, false, false, false, false] (by kernel_rfl) rfl rfl trivial (fun hHeld => ?_)
   refine with_tabW oSum.tab5 oSum.bits5 (fun HT_ HW_ => ?_)
   have HB : Aside0 (Below w2.heap.size w2 w2.drew) := ⟨bdrew (Below.refl _ _)⟩
   have TB : Aside0 (Blk w2.drew g9 #[.int .i64 r, .int .i64 av, .slice Am ms.length cm] 59) := ⟨T2.out.drew⟩
   have GB : Aside0 (Blk w2.drew g3 #[.slice (some ad) dl.length c, .slice (some bd) sh.length c2] 103) := ⟨G2.out.drew⟩
   generalize hwd : w2.drew = w1' at *
   clear hwd
   refine inv_at [0, 1, 2, 3, 4, 5, 6, 7, 8, 9, 10, 11, 12, 13] (fun a0_ b a w' => a = putSel a0_ b [(0, 23, .func (.func F) #[] caps), (1, 24, .agg #[.int .i64 r, .int .i64 av, .slice Am ms.length cm]), (2, 25, .int .i64 bx), (3, 26, .pointer (some ⟨g3, 1, none⟩)), (4, 27, .slice (some bd) sh.length c2), (5, 28, .int .i64 k), (6, 29, .pointer (some (bd.add (k * 2)))), (7, 30, .agg #[.int .i64 sn, .int .i64 sd]), (8, 31, .tuple #[.int .i64 pq, .bool po]), (9, 22, .tuple #[.int .i64 pq, .bool po]), (10, 32, .int .i64 pq), (11, 33, .bool po), (12, 10, .int .i64 pq), (13, 11, .bool po)] ∧ (Below w2.heap.size w2 w') ∧ (Blk w' g9 #[.int .i64 r, .int .i64 av, .slice Am ms.length cm] 59) ∧ (Blk w' g3 #[.slice (some ad) dl.length c, .slice (some bd) sh.length c2] 103)) HT_.out HW_.out (by kernel_rfl) (by kernel_rfl) ?_ ?_ ?_
   ·exact ⟨by simp only [putSel, Bool.false_eq_true, if_false], HB.out, TB.out, GB.out⟩
   ·skip
    clear GB HB TB
    refine steps_cons ?_ ?_
    ·rintro b a w' ⟨ha, QHB, QTB, QGB⟩ hb_ hon hoff
     refine ⟨_, rfl, fun K hK => ?_⟩
     have e2 : a.tmps[2]? = some (.func (.func F) #[] caps) := by rw [ha]; exact (putSel_off rfl).trans rfl
     replace ha := aM_ ha
     have HB := aM_ QHB
     have TB := aM_ QTB
     have GB := aM_ QGB
     refine value_ (w1 := w') (v := .func (.func F) #[] caps) (by rfl) rfl ?_ ?_
     ·go_simp
      (try simp only [i64_w])
      try rfl
     refine hK.out _ _ ⟨(by rw [ha.out]; exact putSel_upk 0 hb_ rfl rfl rfl), QHB, QTB, QGB⟩
    refine steps_cons ?_ ?_
    ·rintro b a w' ⟨ha, QHB, QTB, QGB⟩ hb_ hon hoff
     refine ⟨_, rfl, fun K hK => ?_⟩
     have e9 : a.tmps[9]? = some (.pointer (some ⟨g9, 0, none⟩)) := by rw [ha]; exact (putSel_off rfl).trans rfl
     replace ha := aM_ ha
     have HB := aM_ QHB
     have TB := aM_ QTB
     have GB := aM_ QGB
     have z0 := TB.out.cell 0
     have z1 := TB.out.cell 1
     have z2 := TB.out.cell 2
     simp only [gA_, gZ_, gS_] at z0 z1 z2
     refine value_ (w1 := w') (v := .agg #[.int .i64 r, .int .i64 av, .slice Am ms.length cm]) (by rfl) rfl ?_ ?_
     ·go_simp
      (try simp only [i64_w])
      try rfl
     refine hK.out _ _ ⟨(by rw [ha.out]; exact putSel_upk 1 hb_ rfl rfl rfl), QHB, QTB, QGB⟩
    refine steps_cons ?_ ?_
    ·rintro b a w' ⟨ha, QHB, QTB, QGB⟩ hb_ hon hoff
     refine ⟨_, rfl, fun K hK => ?_⟩
     have e23 : a.tmps[23]? = some (.func (.func F) #[] caps) := by rw [ha]; exact putSel_on (e := (0, 23, .func (.func F) #[] caps)) 0 rfl rfl (hon 0 rfl) rfl
     have e24 : a.tmps[24]? = some (.agg #[.int .i64 r, .int .i64 av, .slice Am ms.length cm]) := by rw [ha]; exact putSel_on (e := (1, 24, .agg #[.int .i64 r, .int .i64 av, .slice Am ms.length cm])) 1 rfl rfl (hon 1 rfl) rfl
     replace ha := aM_ ha
     have HB := aM_ QHB
     have TB := aM_ QTB
     have GB := aM_ QGB
     refine call_ F (#[.agg #[.int .i64 r, .int .i64 av, .slice Am ms.length cm]] ++ caps) (by rfl) rfl ?_ ?_
     ·go_simp; exact HCF.out _ _
     refine (HFK.out w' HB.out).mono ?_
     rintro e w2' ⟨rfl, hb⟩
     refine ⟨_, rfl, ?_⟩
     refine hK.out _ _ ⟨(by rw [ha.out]; exact putSel_upk 2 hb_ rfl rfl rfl), bthen' HB.out hb, TB.out.below hb, GB.out.below hb⟩
    refine steps_cons ?_ ?_
    ·rintro b a w' ⟨ha, QHB, QTB, QGB⟩ hb_ hon hoff
     refine ⟨_, rfl, fun K hK => ?_⟩
     have e3 : a.tmps[3]? = some (.pointer (some ⟨g3, 0, none⟩)) := by rw [ha]; exact (putSel_off rfl).trans rfl
     replace ha := aM_ ha
     have HB := aM_ QHB
     have TB := aM_ QTB
     have GB := aM_ QGB
     refine value_ (w1 := w') (v := .pointer (some ⟨g3, 1, none⟩)) (by rfl) rfl ?_ ?_
     ·go_simp
      (try simp only [i64_w])
      try rfl
     refine hK.out _ _ ⟨(by rw [ha.out]; exact putSel_upk 3 hb_ rfl rfl rfl), QHB, QTB, QGB⟩
    refine steps_cons ?_ ?_
    ·rintro b a w' ⟨ha, QHB, QTB, QGB⟩ hb_ hon hoff
     refine ⟨_, rfl, fun K hK => ?_⟩
     have e26 : a.tmps[26]? = some (.pointer (some ⟨g3, 1, none⟩)) := by rw [ha]; exact putSel_on (e := (3, 26, .pointer (some ⟨g3, 1, none⟩))) 3 rfl rfl (hon 3 rfl) rfl
     replace ha := aM_ ha
     have HB := aM_ QHB
     have TB := aM_ QTB
     have GB := aM_ QGB
     have z1 := GB.out.cell 1
     simp only [gA_, gZ_, gS_] at z1
     refine value_ (w1 := w') (v := .slice (some bd) sh.length c2) (by rfl) rfl ?_ ?_
     ·go_simp
      (try simp only [i64_w])
      try rfl
     refine hK.out _ _ ⟨(by rw [ha.out]; exact putSel_upk 4 hb_ rfl rfl rfl), QHB, QTB, QGB⟩
    refine steps_cons ?_ ?_
    ·rintro b a w' ⟨ha, QHB, QTB, QGB⟩ hb_ hon hoff
     refine ⟨_, rfl, fun K hK => ?_⟩
     have e8 : a.tmps[8]? = some (.int .i64 k) := by rw [ha]; exact (putSel_off rfl).trans rfl
     replace ha := aM_ ha
     have HB := aM_ QHB
     have TB := aM_ QTB
     have GB := aM_ QGB
     refine value_ (w1 := w') (v := .int .i64 k) (by rfl) rfl ?_ ?_
     ·go_simp
      (try simp only [i64_w])
      try rfl
     refine hK.out _ _ ⟨(by rw [ha.out]; exact putSel_upk 5 hb_ rfl rfl rfl), QHB, QTB, QGB⟩
    refine steps_cons ?_ ?_
    ·rintro b a w' ⟨ha, QHB, QTB, QGB⟩ hb_ hon hoff
     refine ⟨_, rfl, fun K hK => ?_⟩
     have e27 : a.tmps[27]? = some (.slice (some bd) sh.length c2) := by rw [ha]; exact putSel_on (e := (4, 27, .slice (some bd) sh.length c2)) 4 rfl rfl (hon 4 rfl) rfl
     have e28 : a.tmps[28]? = some (.int .i64 k) := by rw [ha]; exact putSel_on (e := (5, 28, .int .i64 k)) 5 rfl rfl (hon 5 rfl) rfl
     replace ha := aM_ ha
     have HB := aM_ QHB
     have TB := aM_ QTB
     have GB := aM_ QGB
     have y0 := Y0.out
     have y1 := Y1.out
     refine value_ (w1 := w') (v := .pointer (some (bd.add (k * 2)))) (by rfl) rfl ?_ ?_
     ·go_simp
      (try simp only [i64_w])
      try rfl
     refine hK.out _ _ ⟨(by rw [ha.out]; exact putSel_upk 6 hb_ rfl rfl rfl), QHB, QTB, QGB⟩
    refine steps_cons ?_ ?_
    ·rintro b a w' ⟨ha, QHB, QTB, QGB⟩ hb_ hon hoff
     refine ⟨_, rfl, fun K hK => ?_⟩
     have e29 : a.tmps[29]? = some (.pointer (some (bd.add (k * 2)))) := by rw [ha]; exact putSel_on (e := (6, 29, .pointer (some (bd.add (k * 2))))) 6 rfl rfl (hon 6 rfl) rfl
     replace ha := aM_ ha
     have HB := aM_ QHB
     have TB := aM_ QTB
     have GB := aM_ QGB
     have z0 := pw_cell_below HB.out S0.out
     have z1 := pw_cell_below HB.out S1.out
     refine value_ (w1 := w') (v := .agg #[.int .i64 sn, .int .i64 sd]) (by rfl) rfl ?_ ?_
     ·go_simp
      (try simp only [i64_w])
      try rfl
     refine hK.out _ _ ⟨(by rw [ha.out]; exact putSel_upk 7 hb_ rfl rfl rfl), QHB, QTB, QGB⟩
    refine steps_cons ?_ ?_
    ·rintro b a w' ⟨ha, QHB, QTB, QGB⟩ hb_ hon hoff
     refine ⟨_, rfl, fun K hK => ?_⟩
     have e25 : a.tmps[25]? = some (.int .i64 bx) := by rw [ha]; exact putSel_on (e := (2, 25, .int .i64 bx)) 2 rfl rfl (hon 2 rfl) rfl
     have e30 : a.tmps[30]? = some (.agg #[.int .i64 sn, .int .i64 sd]) := by rw [ha]; exact putSel_on (e := (7, 30, .agg #[.int .i64 sn, .int .i64 sd])) 7 rfl rfl (hon 7 rfl) rfl
     replace ha := aM_ ha
     have HB := aM_ QHB
     have TB := aM_ QTB
     have GB := aM_ QGB
     refine call_ 18 #[.int .i64 bx, .agg #[.int .i64 sn, .int .i64 sd]] (by rfl) rfl ?_ ?_
     ·go_simp
     refine (part_any bx sn sd w').mono ?_
     rintro e w2' ⟨rfl, hb⟩
     rw [PQ.out, PO.out]
     refine ⟨_, rfl, ?_⟩
     refine hK.out _ _ ⟨(by rw [ha.out]; exact putSel_upk 8 hb_ rfl rfl rfl), bthen' HB.out hb, TB.out.below hb, GB.out.below hb⟩
    refine steps_cons ?_ ?_
    ·rintro b a w' ⟨ha, QHB, QTB, QGB⟩ hb_ hon hoff
     refine ⟨_, rfl, fun K hK => ?_⟩
     have e31 : a.tmps[31]? = some (.tuple #[.int .i64 pq, .bool po]) := by rw [ha]; exact putSel_on (e := (8, 31, .tuple #[.int .i64 pq, .bool po])) 8 rfl rfl (hon 8 rfl) rfl
     replace ha := aM_ ha
     have HB := aM_ QHB
     have TB := aM_ QTB
     have GB := aM_ QGB
     refine value_ (w1 := w') (v := .tuple #[.int .i64 pq, .bool po]) (by rfl) rfl ?_ ?_
     ·go_simp
      (try simp only [i64_w])
      try rfl
     refine hK.out _ _ ⟨(by rw [ha.out]; exact putSel_upk 9 hb_ rfl rfl rfl), QHB, QTB, QGB⟩
    refine steps_cons ?_ ?_
    ·rintro b a w' ⟨ha, QHB, QTB, QGB⟩ hb_ hon hoff
     refine ⟨_, rfl, fun K hK => ?_⟩
     have e22 : a.tmps[22]? = some (.tuple #[.int .i64 pq, .bool po]) := by rw [ha]; exact putSel_on (e := (9, 22, .tuple #[.int .i64 pq, .bool po])) 9 rfl rfl (hon 9 rfl) rfl
     replace ha := aM_ ha
     have HB := aM_ QHB
     have TB := aM_ QTB
     have GB := aM_ QGB
     refine value_ (w1 := w') (v := .int .i64 pq) (by rfl) rfl ?_ ?_
     ·go_simp
      (try simp only [i64_w])
      try rfl
     refine hK.out _ _ ⟨(by rw [ha.out]; exact putSel_upk 10 hb_ rfl rfl rfl), QHB, QTB, QGB⟩
    refine steps_cons ?_ ?_
    ·rintro b a w' ⟨ha, QHB, QTB, QGB⟩ hb_ hon hoff
     refine ⟨_, rfl, fun K hK => ?_⟩
     have e22 : a.tmps[22]? = some (.tuple #[.int .i64 pq, .bool po]) := by rw [ha]; exact putSel_on (e := (9, 22, .tuple #[.int .i64 pq, .bool po])) 9 rfl rfl (hon 9 rfl) rfl
     replace ha := aM_ ha
     have HB := aM_ QHB
     have TB := aM_ QTB
     have GB := aM_ QGB
     refine value_ (w1 := w') (v := .bool po) (by rfl) rfl ?_ ?_
     ·go_simp
      (try simp only [i64_w])
      try rfl
     refine hK.out _ _ ⟨(by rw [ha.out]; exact putSel_upk 11 hb_ rfl rfl rfl), QHB, QTB, QGB⟩
    refine steps_cons ?_ ?_
    ·rintro b a w' ⟨ha, QHB, QTB, QGB⟩ hb_ hon hoff
     refine ⟨_, rfl, fun K hK => ?_⟩
     have e32 : a.tmps[32]? = some (.int .i64 pq) := by rw [ha]; exact putSel_on (e := (10, 32, .int .i64 pq)) 10 rfl rfl (hon 10 rfl) rfl
     replace ha := aM_ ha
     have HB := aM_ QHB
     have TB := aM_ QTB
     have GB := aM_ QGB
     refine value_ (w1 := w') (v := .int .i64 pq) (by rfl) rfl ?_ ?_
     ·go_simp
      (try simp only [i64_w])
      try rfl
     refine hK.out _ _ ⟨(by rw [ha.out]; exact putSel_upk 12 hb_ rfl rfl rfl), QHB, QTB, QGB⟩
    refine steps_cons ?_ ?_
    ·rintro b a w' ⟨ha, QHB, QTB, QGB⟩ hb_ hon hoff
     refine ⟨_, rfl, fun K hK => ?_⟩
     have e33 : a.tmps[33]? = some (.bool po) := by rw [ha]; exact putSel_on (e := (11, 33, .bool po)) 11 rfl rfl (hon 11 rfl) rfl
     replace ha := aM_ ha
     have HB := aM_ QHB
     have TB := aM_ QTB
     have GB := aM_ QGB
     refine value_ (w1 := w') (v := .bool po) (by rfl) rfl ?_ ?_
     ·go_simp
      (try simp only [i64_w])
      try rfl
     refine hK.out _ _ ⟨(by rw [ha.out]; exact putSel_upk 13 hb_ rfl rfl rfl), QHB, QTB, QGB⟩
    exact steps_nil
   ·rintro b a w' hall ⟨ha, QHB, QTB, QGB⟩
    clear GB HB TB
    have hb0_ := hall 0 (by kernel_rfl)
    have hb1_ := hall 1 (by kernel_rfl)
    have hb2_ := hall 2 (by kernel_rfl)
    have hb3_ := hall 3 (by kernel_rfl)
    have hb4_ := hall 4 (by kernel_rfl)
    have hb5_ := hall 5 (by kernel_rfl)
    have hb6_ := hall 6 (by kernel_rfl)
    have hb7_ := hall 7 (by kernel_rfl)
    have hb8_ := hall 8 (by kernel_rfl)
    have hb9_ := hall 9 (by kernel_rfl)
    have hb10_ := hall 10 (by kernel_rfl)
    have hb11_ := hall 11 (by kernel_rfl)
    have hb12_ := hall 12 (by kernel_rfl)
    have hb13_ := hall 13 (by kernel_rfl)
    subst ha
    simp only [putSel, hb0_, hb1_, hb2_, hb3_, hb4_, hb5_, hb6_, hb7_, hb8_, hb9_, hb10_, hb11_, hb12_, hb13_, if_true, Act.put, List.setIfInBounds_toArray, List.set_cons_zero, List.set_cons_succ]
    have HB := aM_ QHB
    clear QHB
    have TB := aM_ QTB
    clear QTB
    have GB := aM_ QGB
    clear QGB
    clear hall hb0_ hb1_ hb2_ hb3_ hb4_ hb5_ hb6_ hb7_ hb8_ hb9_ hb10_ hb11_ hb12_ hb13_
    have HB5 := lH_ (bthen' HB2.out HB.out)
    have h1 := HZ.out
    have h2 := HPB.out
    have h3 := HLT.out
    have h4 := HLL.out
    go_wp2_with fail
    exact ⟨⟨k + 1, by go_num, by omega, sk + pq, rfl, lH_ (by rw [HSA.out, ← HA.out]), lH_ (by omega), HB5⟩, by simp [intOf]; omega⟩
  ·have d1 : decide (k < dl.length) = false := decide_eq_false hlt
   have HT1 : Hid (sumB bv n dl sh = sk) := lH_ (by rw [HE.out, HA.out]; congr 1; omega)
   clear hlt
   go_wp2_with fail
   go_ret
   exact ⟨ret_int HT1.out.symm, bthen' HX.out HBr.out⟩
theorem call_pl1 (v x : Value) (W : World) : (callFunc 80 (#[x] ++ #[v])).run Try.prog W = .ok (.enter 80 (#[x] ++ #[v])) W := by go_simp
theorem sum_pl1 (k b : Nat) (n : Int) (dl : List Dl) (A : Option Addr) (c : Nat) (sh : List I2) (B : Option Addr) (c2 : Nat) (w : World) (hn : -1000000 ≤ n ∧ n ≤ 1000000) (hl : dl.length ≤ 1000000) (hlen : sh.length = dl.length) (hC : Kd.C kDl w A dl.length dl) (hS : Kd.C kI2 w B sh.length sh) (hk : ∀ d ∈ dl, k < d.moves.length) (hb : w.cell? ⟨b, 0, none⟩ = some (.int .i64 k)) :
  Calls Try.prog 48 #[.agg #[.slice A dl.length c, .slice B sh.length c2], .int .i64 n, .func (.func 80) #[] #[.pointer (some ⟨b, 0, none⟩)]] w fun e w' => e = .returned (.int .i64 (sumB (fun d => (d.moves.getD k zI2).a) n dl sh)) ∧ Below w.heap.size w w' :=
 sum_any _ #[.pointer (some ⟨b, 0, none⟩)] (call_pl1 _) _ n dl A c sh B c2 w hn hl hlen hC hS (fun j hj Am cm hM w1 h1 => place1_any _ Am cm k b w1 (hk _ (getD_at hj zDl)) (Kd.C_below hM h1) (pw_cell_below h1 hb))
theorem call_pl2 (v x : Value) (W : World) : (callFunc 81 (#[x] ++ #[v])).run Try.prog W = .ok (.enter 81 (#[x] ++ #[v])) W := by go_simp
theorem sum_pl2 (k b : Nat) (n : Int) (dl : List Dl) (A : Option Addr) (c : Nat) (sh : List I2) (B : Option Addr) (c2 : Nat) (w : World) (hn : -1000000 ≤ n ∧ n ≤ 1000000) (hl : dl.length ≤ 1000000) (hlen : sh.length = dl.length) (hC : Kd.C kDl w A dl.length dl) (hS : Kd.C kI2 w B sh.length sh) (hk : ∀ d ∈ dl, k < d.moves.length) (hb : w.cell? ⟨b, 0, none⟩ = some (.int .i64 k)) :
  Calls Try.prog 48 #[.agg #[.slice A dl.length c, .slice B sh.length c2], .int .i64 n, .func (.func 81) #[] #[.pointer (some ⟨b, 0, none⟩)]] w fun e w' => e = .returned (.int .i64 (sumB (fun d => (d.moves.getD k zI2).b) n dl sh)) ∧ Below w.heap.size w w' :=
 sum_any _ #[.pointer (some ⟨b, 0, none⟩)] (call_pl2 _) _ n dl A c sh B c2 w hn hl hlen hC hS (fun j hj Am cm hM w1 h1 => place2_any _ Am cm k b w1 (hk _ (getD_at hj zDl)) (Kd.C_below hM h1) (pw_cell_below h1 hb))
theorem call_at3 (x : Value) (W : World) : (callFunc 49 (#[x] ++ #[])).run Try.prog W = .ok (.enter 49 (#[x] ++ #[])) W := by go_simp
theorem sum_adv (n : Int) (dl : List Dl) (A : Option Addr) (c : Nat) (sh : List I2) (B : Option Addr) (c2 : Nat) (w : World) (hn : -1000000 ≤ n ∧ n ≤ 1000000) (hl : dl.length ≤ 1000000) (hlen : sh.length = dl.length) (hC : Kd.C kDl w A dl.length dl) (hS : Kd.C kI2 w B sh.length sh) :
  Calls Try.prog 48 #[.agg #[.slice A dl.length c, .slice B sh.length c2], .int .i64 n, .func (.func 49) #[] #[]] w fun e w' => e = .returned (.int .i64 (sumB (fun d => d.adv) n dl sh)) ∧ Below w.heap.size w w' :=
 sum_any _ #[] call_at3 _ n dl A c sh B c2 w hn hl hlen hC hS (fun j hj Am cm hM w1 h1 => at3_any _ Am cm w1)
/- outline's adder.place. -/
def oPlc.T1 : Bool × List (List Nat × List Nat) := (true, [([], []), ([], []), ([], []), ([0, 1, 2], [0, 1, 2]), ([], []), ([], []), ([], []), ([4, 5, 6, 3], [4, 5, 6]), ([3, 7, 0, 1, 2, 3], [3]), ([7, 8, 0, 1, 2, 3, 4, 5, 6, 7, 8], [7])])
def oPlc.B1 : List Nat := [0, 0, 0, 7, 0, 0, 0, 127, 255, 511]
theorem oPlc.tab1 : rtab .any (opsOf Try.f47 1) = oPlc.T1 := by kernel_rfl
theorem oPlc.bits1 : waitsOk oPlc.T1.2 oPlc.B1 = true := by kernel_rfl
theorem place_any (k : Nat) (x y : Int) (dl : List Dl) (A : Option Addr) (c : Nat) (sh : List I2) (B : Option Addr) (c2 : Nat) (w : World) (hx : -1000000 ≤ x ∧ x ≤ 1000000) (hy : -1000000 ≤ y ∧ y ≤ 1000000) (hl : dl.length ≤ 1000000) (hlen : sh.length = dl.length) (hC : Kd.C kDl w A dl.length dl) (hS : Kd.C kI2 w B sh.length sh) (hk : ∀ d ∈ dl, k < d.moves.length) :
  Calls Try.prog 47 #[.agg #[.slice A dl.length c, .slice B sh.length c2], .int .i64 k, .int .i64 x, .int .i64 y] w fun e w' => e = .returned (.tuple #[.int .i64 (sumB (fun d => (d.moves.getD k zI2).a) x dl sh), .int .i64 (sumB (fun d => (d.moves.getD k zI2).b) y dl sh)]) ∧ Below w.heap.size w w' := by
 have HC := lH_ hC
 have HS := lH_ hS
 have HLN := lH_ hlen
 have HL := lH_ hl
 have HX_ := lH_ hx
 have HY_ := lH_ hy
 have HK := lH_ hk
 clear hC hS hlen hl hx hy hk
 go_enter Try.func47, Try.ntmps47
 go_upto_region 1 with fail
 obtain ⟨w1, g4, hw, hg, G, HX, _⟩ := new_box w #[.slice A dl.length c, .slice B sh.length c2] 103
 obtain ⟨w2, g5, hw2, hg2, K5, HX2, _⟩ := new_box w1 #[.int .i64 (k : Int)] 3
 have e5 : w.heap.size + 1 = g5 := by rw [← hg2, ← hw]; simp
 rw [hw, hw2, e5, hg]
 clear hw hg hw2 hg2 e5
 have G2 := lH_ (G.out.below HX2.out)
 have HXX := lH_ (bthen' HX.out HX2.out)
 have HSx := lH_ (fun w1' (h : Below w2.heap.size w2 w1') => sum_pl1 k g5 x dl A c sh B c2 w1' HX_.out HL.out HLN.out (Kd.C_below HC.out (bthen' HXX.out h)) (Kd.C_below HS.out (bthen' HXX.out h)) HK.out (pw_cell_below h (K5.out.cell 0)))
 have HSy := lH_ (fun w1' (h : Below w2.heap.size w2 w1') => sum_pl2 k g5 y dl A c sh B c2 w1' HY_.out HL.out HLN.out (Kd.C_below HC.out (bthen' HXX.out h)) (Kd.C_below HS.out (bthen' HXX.out h)) HK.out (pw_cell_below h (K5.out.cell 0)))
 obtain ⟨sx, hsx⟩ : ∃ v, sumB (fun d => (d.moves.getD k zI2).a) x dl sh = v := ⟨_, rfl⟩
 obtain ⟨sy, hsy⟩ : ∃ v, sumB (fun d => (d.moves.getD k zI2).b) y dl sh = v := ⟨_, rfl⟩
 rw [hsx] at HSx
 rw [hsy] at HSy
 have HEX := lH_ hsx
 have HEY := lH_ hsy
 clear hsx hsy
 refine start_ (n := 10) (S := fun w' => True) (ds := []) #[false, false, false, false, false, false, false, false, false, false] (by kernel_rfl) rfl rfl trivial (fun hHeld => ?_)
 refine with_tabW oPlc.tab1 oPlc.bits1 (fun HT_ HW_ => ?_)
 have HB : Aside0 (Below w2.heap.size w2 w2.drew) := ⟨bdrew (Below.refl _ _)⟩
 have GB : Aside0 (Blk w2.drew g4 #[.slice A dl.length c, .slice B sh.length c2] 103) := ⟨G2.out.drew⟩
 generalize hwd : w2.drew = w1' at *
 clear hwd
 refine inv_at [0, 1, 2, 3, 4, 5, 6, 7, 8, 9] (fun a0_ b a w' => a = putSel a0_ b [(0, 10, .agg #[.slice A dl.length c, .slice B sh.length c2]), (1, 11, .int .i64 x), (2, 12, .func (.func 80) #[] #[.pointer (some ⟨g5, 0, none⟩)]), (3, 13, .int .i64 sx), (4, 14, .agg #[.slice A dl.length c, .slice B sh.length c2]), (5, 15, .int .i64 y), (6, 16, .func (.func 81) #[] #[.pointer (some ⟨g5, 0, none⟩)]), (7, 17, .int .i64 sy), (8, 8, .int .i64 sx), (9, 9, .int .i64 sy)] ∧ (Below w2.heap.size w2 w') ∧ (Blk w' g4 #[.slice A dl.length c, .slice B sh.length c2] 103)) HT_.out HW_.out (by kernel_rfl) (by kernel_rfl) ?_ ?_ ?_
 ·exact ⟨by simp only [putSel, Bool.false_eq_true, if_false], HB.out, GB.out⟩
 ·skip
  clear GB HB
  refine steps_cons ?_ ?_
  ·rintro b a w' ⟨ha, QHB, QGB⟩ hb_ hon hoff
   refine ⟨_, rfl, fun K hK => ?_⟩
   have e4 : a.tmps[4]? = some (.pointer (some ⟨g4, 0, none⟩)) := by rw [ha]; exact (putSel_off rfl).trans rfl
   replace ha := aM_ ha
   have HB := aM_ QHB
   have GB := aM_ QGB
   have z0 := GB.out.cell 0
   have z1 := GB.out.cell 1
   simp only [gA_, gZ_, gS_] at z0 z1
   refine value_ (w1 := w') (v := .agg #[.slice A dl.length c, .slice B sh.length c2]) (by rfl) rfl ?_ ?_
   ·go_simp
    (try simp only [i64_w])
    try rfl
   refine hK.out _ _ ⟨(by rw [ha.out]; exact putSel_upk 0 hb_ rfl rfl rfl), QHB, QGB⟩
  refine steps_cons ?_ ?_
  ·rintro b a w' ⟨ha, QHB, QGB⟩ hb_ hon hoff
   refine ⟨_, rfl, fun K hK => ?_⟩
   have e2 : a.tmps[2]? = some (.int .i64 x) := by rw [ha]; exact (putSel_off rfl).trans rfl
   replace ha := aM_ ha
   have HB := aM_ QHB
   have GB := aM_ QGB
   refine value_ (w1 := w') (v := .int .i64 x) (by rfl) rfl ?_ ?_
   ·go_simp
    (try simp only [i64_w])
    try rfl
   refine hK.out _ _ ⟨(by rw [ha.out]; exact putSel_upk 1 hb_ rfl rfl rfl), QHB, QGB⟩
  refine steps_cons ?_ ?_
  ·rintro b a w' ⟨ha, QHB, QGB⟩ hb_ hon hoff
   refine ⟨_, rfl, fun K hK => ?_⟩
   have e5 : a.tmps[5]? = some (.pointer (some ⟨g5, 0, none⟩)) := by rw [ha]; exact (putSel_off rfl).trans rfl
   replace ha := aM_ ha
   have HB := aM_ QHB
   have GB := aM_ QGB
   refine value_ (w1 := w') (v := .func (.func 80) #[] #[.pointer (some ⟨g5, 0, none⟩)]) (by rfl) rfl ?_ ?_
   ·go_simp
    (try simp only [i64_w])
    try rfl
   refine hK.out _ _ ⟨(by rw [ha.out]; exact putSel_upk 2 hb_ rfl rfl rfl), QHB, QGB⟩
  refine steps_cons ?_ ?_
  ·rintro b a w' ⟨ha, QHB, QGB⟩ hb_ hon hoff
   refine ⟨_, rfl, fun K hK => ?_⟩
   have e10 : a.tmps[10]? = some (.agg #[.slice A dl.length c, .slice B sh.length c2]) := by rw [ha]; exact putSel_on (e := (0, 10, .agg #[.slice A dl.length c, .slice B sh.length c2])) 0 rfl rfl (hon 0 rfl) rfl
   have e11 : a.tmps[11]? = some (.int .i64 x) := by rw [ha]; exact putSel_on (e := (1, 11, .int .i64 x)) 1 rfl rfl (hon 1 rfl) rfl
   have e12 : a.tmps[12]? = some (.func (.func 80) #[] #[.pointer (some ⟨g5, 0, none⟩)]) := by rw [ha]; exact putSel_on (e := (2, 12, .func (.func 80) #[] #[.pointer (some ⟨g5, 0, none⟩)])) 2 rfl rfl (hon 2 rfl) rfl
   replace ha := aM_ ha
   have HB := aM_ QHB
   have GB := aM_ QGB
   refine call_ 48 #[.agg #[.slice A dl.length c, .slice B sh.length c2], .int .i64 x, .func (.func 80) #[] #[.pointer (some ⟨g5, 0, none⟩)]] (by rfl) rfl ?_ ?_
   ·go_simp
   refine (HSx.out w' HB.out).mono ?_
   rintro e w2' ⟨rfl, hb⟩
   refine ⟨_, rfl, ?_⟩
   refine hK.out _ _ ⟨(by rw [ha.out]; exact putSel_upk 3 hb_ rfl rfl rfl), bthen' HB.out hb, GB.out.below hb⟩
  refine steps_cons ?_ ?_
  ·rintro b a w' ⟨ha, QHB, QGB⟩ hb_ hon hoff
   refine ⟨_, rfl, fun K hK => ?_⟩
   have e4 : a.tmps[4]? = some (.pointer (some ⟨g4, 0, none⟩)) := by rw [ha]; exact (putSel_off rfl).trans rfl
   replace ha := aM_ ha
   have HB := aM_ QHB
   have GB := aM_ QGB
   have z0 := GB.out.cell 0
   have z1 := GB.out.cell 1
   simp only [gA_, gZ_, gS_] at z0 z1
   refine value_ (w1 := w') (v := .agg #[.slice A dl.length c, .slice B sh.length c2]) (by rfl) rfl ?_ ?_
   ·go_simp
    (try simp only [i64_w])
    try rfl
   refine hK.out _ _ ⟨(by rw [ha.out]; exact putSel_upk 4 hb_ rfl rfl rfl), QHB, QGB⟩
  refine steps_cons ?_ ?_
  ·rintro b a w' ⟨ha, QHB, QGB⟩ hb_ hon hoff
   refine ⟨_, rfl, fun K hK => ?_⟩
   have e3 : a.tmps[3]? = some (.int .i64 y) := by rw [ha]; exact (putSel_off rfl).trans rfl
   replace ha := aM_ ha
   have HB := aM_ QHB
   have GB := aM_ QGB
   refine value_ (w1 := w') (v := .int .i64 y) (by rfl) rfl ?_ ?_
   ·go_simp
    (try simp only [i64_w])
    try rfl
   refine hK.out _ _ ⟨(by rw [ha.out]; exact putSel_upk 5 hb_ rfl rfl rfl), QHB, QGB⟩
  refine steps_cons ?_ ?_
  ·rintro b a w' ⟨ha, QHB, QGB⟩ hb_ hon hoff
   refine ⟨_, rfl, fun K hK => ?_⟩
   have e5 : a.tmps[5]? = some (.pointer (some ⟨g5, 0, none⟩)) := by rw [ha]; exact (putSel_off rfl).trans rfl
   replace ha := aM_ ha
   have HB := aM_ QHB
   have GB := aM_ QGB
   refine value_ (w1 := w') (v := .func (.func 81) #[] #[.pointer (some ⟨g5, 0, none⟩)]) (by rfl) rfl ?_ ?_
   ·go_simp
    (try simp only [i64_w])
    try rfl
   refine hK.out _ _ ⟨(by rw [ha.out]; exact putSel_upk 6 hb_ rfl rfl rfl), QHB, QGB⟩
  refine steps_cons ?_ ?_
  ·rintro b a w' ⟨ha, QHB, QGB⟩ hb_ hon hoff
   refine ⟨_, rfl, fun K hK => ?_⟩
   have e14 : a.tmps[14]? = some (.agg #[.slice A dl.length c, .slice B sh.length c2]) := by rw [ha]; exact putSel_on (e := (4, 14, .agg #[.slice A dl.length c, .slice B sh.length c2])) 4 rfl rfl (hon 4 rfl) rfl
   have e15 : a.tmps[15]? = some (.int .i64 y) := by rw [ha]; exact putSel_on (e := (5, 15, .int .i64 y)) 5 rfl rfl (hon 5 rfl) rfl
   have e16 : a.tmps[16]? = some (.func (.func 81) #[] #[.pointer (some ⟨g5, 0, none⟩)]) := by rw [ha]; exact putSel_on (e := (6, 16, .func (.func 81) #[] #[.pointer (some ⟨g5, 0, none⟩)])) 6 rfl rfl (hon 6 rfl) rfl
   replace ha := aM_ ha
   have HB := aM_ QHB
   have GB := aM_ QGB
   refine call_ 48 #[.agg #[.slice A dl.length c, .slice B sh.length c2], .int .i64 y, .func (.func 81) #[] #[.pointer (some ⟨g5, 0, none⟩)]] (by rfl) rfl ?_ ?_
   ·go_simp
   refine (HSy.out w' HB.out).mono ?_
   rintro e w2' ⟨rfl, hb⟩
   refine ⟨_, rfl, ?_⟩
   refine hK.out _ _ ⟨(by rw [ha.out]; exact putSel_upk 7 hb_ rfl rfl rfl), bthen' HB.out hb, GB.out.below hb⟩
  refine steps_cons ?_ ?_
  ·rintro b a w' ⟨ha, QHB, QGB⟩ hb_ hon hoff
   refine ⟨_, rfl, fun K hK => ?_⟩
   have e13 : a.tmps[13]? = some (.int .i64 sx) := by rw [ha]; exact putSel_on (e := (3, 13, .int .i64 sx)) 3 rfl rfl (hon 3 rfl) rfl
   replace ha := aM_ ha
   have HB := aM_ QHB
   have GB := aM_ QGB
   refine value_ (w1 := w') (v := .int .i64 sx) (by rfl) rfl ?_ ?_
   ·go_simp
    (try simp only [i64_w])
    try rfl
   refine hK.out _ _ ⟨(by rw [ha.out]; exact putSel_upk 8 hb_ rfl rfl rfl), QHB, QGB⟩
  refine steps_cons ?_ ?_
  ·rintro b a w' ⟨ha, QHB, QGB⟩ hb_ hon hoff
   refine ⟨_, rfl, fun K hK => ?_⟩
   have e17 : a.tmps[17]? = some (.int .i64 sy) := by rw [ha]; exact putSel_on (e := (7, 17, .int .i64 sy)) 7 rfl rfl (hon 7 rfl) rfl
   replace ha := aM_ ha
   have HB := aM_ QHB
   have GB := aM_ QGB
   refine value_ (w1 := w') (v := .int .i64 sy) (by rfl) rfl ?_ ?_
   ·go_simp
    (try simp only [i64_w])
    try rfl
   refine hK.out _ _ ⟨(by rw [ha.out]; exact putSel_upk 9 hb_ rfl rfl rfl), QHB, QGB⟩
  exact steps_nil
 ·rintro b a w' hall ⟨ha, QHB, QGB⟩
  clear GB HB
  have hb0_ := hall 0 (by kernel_rfl)
  have hb1_ := hall 1 (by kernel_rfl)
  have hb2_ := hall 2 (by kernel_rfl)
  have hb3_ := hall 3 (by kernel_rfl)
  have hb4_ := hall 4 (by kernel_rfl)
  have hb5_ := hall 5 (by kernel_rfl)
  have hb6_ := hall 6 (by kernel_rfl)
  have hb7_ := hall 7 (by kernel_rfl)
  have hb8_ := hall 8 (by kernel_rfl)
  have hb9_ := hall 9 (by kernel_rfl)
  subst ha
  simp only [putSel, hb0_, hb1_, hb2_, hb3_, hb4_, hb5_, hb6_, hb7_, hb8_, hb9_, if_true, Act.put, List.setIfInBounds_toArray, List.set_cons_zero, List.set_cons_succ]
  have HB := aM_ QHB
  clear QHB
  have GB := aM_ QGB
  clear QGB
  clear hall hb0_ hb1_ hb2_ hb3_ hb4_ hb5_ hb6_ hb7_ hb8_ hb9_
  have HB5 := lH_ (bthen' HXX.out HB.out)
  go_wp2_with fail
  go_ret2
  exact ⟨by rw [HEX.out, HEY.out]; rfl, HB5.out⟩
/- outline's At$2: the share of a delta. -/
def oAt2.T1 : Bool × List (List Nat × List Nat) := (true, [([], []), ([], []), ([1], [1]), ([0, 2], [0, 2]), ([3], [3]), ([], []), ([4, 5], [4, 5]), ([6, 6, 0, 1, 2, 3, 4, 5, 6], [6])])
def oAt2.B1 : List Nat := [0, 0, 2, 7, 15, 0, 63, 127]
theorem oAt2.tab1 : rtab .any (opsOf Try.f46 1) = oAt2.T1 := by kernel_rfl
theorem oAt2.bits1 : waitsOk oAt2.T1.2 oAt2.B1 = true := by kernel_rfl
theorem at2_any (d : Dl) (m : Nat) (A : Option Addr) (c : Nat) (rs : List (List I3)) (Ar : Option Addr) (cr : Nat) (ns : List Int) (Ba : Option Addr) (ca : Nat) (b4 b5 : Nat) (w : World) (hm : d.region = (m : Int)) (hlt : m < rs.length) (hC : Kd.C kRg w Ar rs.length rs) (hD : Kd.C kI w Ba ns.length ns) (h4 : w.cell? ⟨b4, 0, none⟩ = some (.slice Ar rs.length cr)) (h5 : w.cell? ⟨b5, 0, none⟩ = some (.slice Ba ns.length ca)) :
  Calls Try.prog 46 #[.agg #[.int .i64 d.region, .int .i64 d.adv, .slice A d.moves.length c], .pointer (some ⟨b4, 0, none⟩), .pointer (some ⟨b5, 0, none⟩)] w fun e w' => e = .returned (.agg #[.int .i64 (sclB (rs.getD m []) ns).a, .int .i64 (sclB (rs.getD m []) ns).b]) ∧ Below w.heap.size w w' := by
 obtain ⟨r, av, ms⟩ := d
 dsimp only at hm ⊢
 subst hm
 obtain ⟨ar, c0, rfl, hK, p0⟩ := el1 (d := kRg) rfl hC [] m hlt
 obtain ⟨A3, c3, hcs, _, hR⟩ := kSl_open hK
 simp only [List.cons.injEq, and_true] at hcs
 subst hcs
 have hnl := hC.2.1
 have Y0 := aM_ (show (0 : Int) ≤ (m : Int) by omega)
 have Y1 := aM_ (show (m : Int) < (rs.length : Int) by omega)
 have Y3 := aM_ p0
 have Y4 := aM_ h4
 have Y5 := aM_ h5
 generalize rs.getD m [] = rr at *
 have HSCL := lH_ (fun w1' (h : Below w.heap.size w w1') => scalar_any rr A3 c3 ns Ba ca w1' (Kd.C_below hR h) (Kd.C_below hD h))
 obtain ⟨s, hs⟩ : ∃ s, sclB rr ns = s := ⟨_, rfl⟩
 rw [hs] at HSCL ⊢
 obtain ⟨sa, sb⟩ := s
 dsimp only at HSCL ⊢
 clear hK hC hD h4 h5 p0 hlt hs hR hnl
 go_enter Try.func46, Try.ntmps46
 go_upto_region 1 with fail
 obtain ⟨w1, g3, hw, hg, T, HX, _⟩ := new_box w #[.int .i64 m, .int .i64 av, .slice A ms.length c] 59
 obtain ⟨w2, g4, hw2, hg2, Z2, HX2, _⟩ := new_box w1 #[.int .i64 0, .int .i64 0] 48
 have e5 : w.heap.size + 1 = g4 := by rw [← hg2, ← hw]; simp
 have NE := lH_ (show g3 ≠ g4 by omega)
 have GE4 := lH_ (show w.heap.size ≤ g4 by omega)
 rw [hw, hw2, e5, hg]
 clear hw hg hw2 hg2 e5
 have T2 := lH_ (T.out.below HX2.out)
 have HX_ : Hid (Below w.heap.size w w2) := lH_ (bthen' HX.out HX2.out)
 have HSC := HSCL
 refine start_ (n := 8) (S := fun w' => True) (ds := []) #[false, false, false, false, false, false, false, false] (by kernel_rfl) rfl rfl trivial (fun hHeld => ?_)
 refine with_tabW oAt2.tab1 oAt2.bits1 (fun HT_ HW_ => ?_)
 have HB : Aside0 (Below w.heap.size w w2.drew) := ⟨bdrew HX_.out⟩
 have TB : Aside0 (Blk w2.drew g3 #[.int .i64 m, .int .i64 av, .slice A ms.length c] 59) := ⟨T2.out.drew⟩
 have Z4 : Aside0 (Blk w2.drew g4 #[.int .i64 0, .int .i64 0] 48) := ⟨Z2.out.drew⟩
 generalize hwd : w2.drew = w1' at *
 clear hwd
 refine inv_at [0, 1, 2, 3, 4, 5, 6, 7] (fun a0_ b a w' => a = putSel a0_ b [(0, 5, .slice (some ar) rs.length cr), (1, 6, .pointer (some ⟨g3, 0, none⟩)), (2, 7, .int .i64 m), (3, 8, .pointer (some (ar.add m))), (4, 9, .agg #[.slice A3 rr.length c3]), (5, 10, .slice Ba ns.length ca), (6, 11, .agg #[.int .i64 sa, .int .i64 sb])] ∧ (Below w.heap.size w w') ∧ (Blk w' g3 #[.int .i64 m, .int .i64 av, .slice A ms.length c] 59) ∧ (b 7 = false → Blk w' g4 #[.int .i64 0, .int .i64 0] 48) ∧ (b 7 = true → Blk w' g4 #[.int .i64 sa, .int .i64 sb] 48)) HT_.out HW_.out (by kernel_rfl) (by kernel_rfl) ?_ ?_ ?_
 ·exact ⟨by simp only [putSel, Bool.false_eq_true, if_false], HB.out, TB.out, fun _ => Z4.out, fun h_ => absurd h_ (by decide)⟩
 ·skip
  clear HB TB Z4
  refine steps_cons ?_ ?_
  ·rintro b a w' ⟨ha, QHB, QTB, QZ4, QF4⟩ hb_ hon hoff
   refine ⟨_, rfl, fun K hK => ?_⟩
   have e1 : a.tmps[1]? = some (.pointer (some ⟨b4, 0, none⟩)) := by rw [ha]; exact (putSel_off rfl).trans rfl
   replace ha := aM_ ha
   have HB := aM_ QHB
   have TB := aM_ QTB
   have Z4 := aM_ (QZ4 (hoff 7 rfl))
   have z0 := pw_cell_below HB.out Y4.out
   refine value_ (w1 := w') (v := .slice (some ar) rs.length cr) (by rfl) rfl ?_ ?_
   ·go_simp
    (try simp only [i64_w])
    try rfl
   refine hK.out _ _ ⟨(by rw [ha.out]; exact putSel_upk 0 hb_ rfl rfl rfl), QHB, QTB, QZ4, dD_ (hoff 7 rfl)⟩
  refine steps_cons ?_ ?_
  ·rintro b a w' ⟨ha, QHB, QTB, QZ4, QF4⟩ hb_ hon hoff
   refine ⟨_, rfl, fun K hK => ?_⟩
   have e3 : a.tmps[3]? = some (.pointer (some ⟨g3, 0, none⟩)) := by rw [ha]; exact (putSel_off rfl).trans rfl
   replace ha := aM_ ha
   have HB := aM_ QHB
   have TB := aM_ QTB
   have Z4 := aM_ (QZ4 (hoff 7 rfl))
   refine value_ (w1 := w') (v := .pointer (some ⟨g3, 0, none⟩)) (by rfl) rfl ?_ ?_
   ·go_simp
    (try simp only [i64_w])
    try rfl
   refine hK.out _ _ ⟨(by rw [ha.out]; exact putSel_upk 1 hb_ rfl rfl rfl), QHB, QTB, QZ4, dD_ (hoff 7 rfl)⟩
  refine steps_cons ?_ ?_
  ·rintro b a w' ⟨ha, QHB, QTB, QZ4, QF4⟩ hb_ hon hoff
   refine ⟨_, rfl, fun K hK => ?_⟩
   have e6 : a.tmps[6]? = some (.pointer (some ⟨g3, 0, none⟩)) := by rw [ha]; exact putSel_on (e := (1, 6, .pointer (some ⟨g3, 0, none⟩))) 1 rfl rfl (hon 1 rfl) rfl
   replace ha := aM_ ha
   have HB := aM_ QHB
   have TB := aM_ QTB
   have Z4 := aM_ (QZ4 (hoff 7 rfl))
   have z0 := TB.out.cell 0
   simp only [gA_, gZ_, gS_] at z0
   refine value_ (w1 := w') (v := .int .i64 m) (by rfl) rfl ?_ ?_
   ·go_simp
    (try simp only [i64_w])
    try rfl
   refine hK.out _ _ ⟨(by rw [ha.out]; exact putSel_upk 2 hb_ rfl rfl rfl), QHB, QTB, QZ4, dD_ (hoff 7 rfl)⟩
  refine steps_cons ?_ ?_
  ·rintro b a w' ⟨ha, QHB, QTB, QZ4, QF4⟩ hb_ hon hoff
   refine ⟨_, rfl, fun K hK => ?_⟩
   have e5 : a.tmps[5]? = some (.slice (some ar) rs.length cr) := by rw [ha]; exact putSel_on (e := (0, 5, .slice (some ar) rs.length cr)) 0 rfl rfl (hon 0 rfl) rfl
   have e7 : a.tmps[7]? = some (.int .i64 m) := by rw [ha]; exact putSel_on (e := (2, 7, .int .i64 m)) 2 rfl rfl (hon 2 rfl) rfl
   replace ha := aM_ ha
   have HB := aM_ QHB
   have TB := aM_ QTB
   have Z4 := aM_ (QZ4 (hoff 7 rfl))
   have y0 := Y0.out
   have y1 := Y1.out
   refine value_ (w1 := w') (v := .pointer (some (ar.add m))) (by rfl) rfl ?_ ?_
   ·go_simp
    (try simp only [i64_w])
    try rfl
   refine hK.out _ _ ⟨(by rw [ha.out]; exact putSel_upk 3 hb_ rfl rfl rfl), QHB, QTB, QZ4, dD_ (hoff 7 rfl)⟩
  refine steps_cons ?_ ?_
  ·rintro b a w' ⟨ha, QHB, QTB, QZ4, QF4⟩ hb_ hon hoff
   refine ⟨_, rfl, fun K hK => ?_⟩
   have e8 : a.tmps[8]? = some (.pointer (some (ar.add m))) := by rw [ha]; exact putSel_on (e := (3, 8, .pointer (some (ar.add m)))) 3 rfl rfl (hon 3 rfl) rfl
   replace ha := aM_ ha
   have HB := aM_ QHB
   have TB := aM_ QTB
   have Z4 := aM_ (QZ4 (hoff 7 rfl))
   have z0 := pw_cell_below HB.out Y3.out
   refine value_ (w1 := w') (v := .agg #[.slice A3 rr.length c3]) (by rfl) rfl ?_ ?_
   ·go_simp
    (try simp only [i64_w])
    try rfl
   refine hK.out _ _ ⟨(by rw [ha.out]; exact putSel_upk 4 hb_ rfl rfl rfl), QHB, QTB, QZ4, dD_ (hoff 7 rfl)⟩
  refine steps_cons ?_ ?_
  ·rintro b a w' ⟨ha, QHB, QTB, QZ4, QF4⟩ hb_ hon hoff
   refine ⟨_, rfl, fun K hK => ?_⟩
   have e2 : a.tmps[2]? = some (.pointer (some ⟨b5, 0, none⟩)) := by rw [ha]; exact (putSel_off rfl).trans rfl
   replace ha := aM_ ha
   have HB := aM_ QHB
   have TB := aM_ QTB
   have Z4 := aM_ (QZ4 (hoff 7 rfl))
   have z0 := pw_cell_below HB.out Y5.out
   refine value_ (w1 := w') (v := .slice Ba ns.length ca) (by rfl) rfl ?_ ?_
   ·go_simp
    (try simp only [i64_w])
    try rfl
   refine hK.out _ _ ⟨(by rw [ha.out]; exact putSel_upk 5 hb_ rfl rfl rfl), QHB, QTB, QZ4, dD_ (hoff 7 rfl)⟩
  refine steps_cons ?_ ?_
  ·rintro b a w' ⟨ha, QHB, QTB, QZ4, QF4⟩ hb_ hon hoff
   refine ⟨_, rfl, fun K hK => ?_⟩
   have e9 : a.tmps[9]? = some (.agg #[.slice A3 rr.length c3]) := by rw [ha]; exact putSel_on (e := (4, 9, .agg #[.slice A3 rr.length c3])) 4 rfl rfl (hon 4 rfl) rfl
   have e10 : a.tmps[10]? = some (.slice Ba ns.length ca) := by rw [ha]; exact putSel_on (e := (5, 10, .slice Ba ns.length ca)) 5 rfl rfl (hon 5 rfl) rfl
   replace ha := aM_ ha
   have HB := aM_ QHB
   have TB := aM_ QTB
   have Z4 := aM_ (QZ4 (hoff 7 rfl))
   refine call_ 13 #[.agg #[.slice A3 rr.length c3], .slice Ba ns.length ca] (by rfl) rfl ?_ ?_
   ·go_simp
   refine (HSC.out w' HB.out).mono ?_
   rintro e w2' ⟨rfl, hb⟩
   refine ⟨_, rfl, ?_⟩
   refine hK.out _ _ ⟨(by rw [ha.out]; exact putSel_upk 6 hb_ rfl rfl rfl), bthen' HB.out hb, TB.out.below hb, fun _ => Z4.out.below hb, dD_ (hoff 7 rfl)⟩
  refine steps_cons ?_ ?_
  ·rintro b a w' ⟨ha, QHB, QTB, QZ4, QF4⟩ hb_ hon hoff
   refine ⟨_, rfl, fun K hK => ?_⟩
   have e4 : a.tmps[4]? = some (.pointer (some ⟨g4, 0, none⟩)) := by rw [ha]; exact (putSel_off rfl).trans rfl
   have e11 : a.tmps[11]? = some (.agg #[.int .i64 sa, .int .i64 sb]) := by rw [ha]; exact putSel_on (e := (6, 11, .agg #[.int .i64 sa, .int .i64 sb])) 6 rfl rfl (hon 6 rfl) rfl
   replace ha := aM_ ha
   have HB := aM_ QHB
   have TB := aM_ QTB
   have Z4 := aM_ (QZ4 hb_)
   have c0 : w'.cell? ⟨g4, 0, none⟩ = some (.int .i64 0) := Z4.out.cell 0
   have c1 : w'.cell? ⟨g4, 1, none⟩ = some (.int .i64 0) := Z4.out.cell 1
   have f0 : w'.frozen? ⟨g4, 0, none⟩ = false := Z4.out.frozen 0
   have f1 : w'.frozen? ⟨g4, 1, none⟩ = false := Z4.out.frozen 1
   refine skip_ (w1 := ((w'.setCell ⟨g4, 0, none⟩ (.int .i64 sa)).setCell ⟨g4, 1, none⟩ (.int .i64 sb))) (by rfl) rfl ?_ ?_
   ·go_simp
   refine hK.out _ _ ⟨(by rw [ha.out]; exact putSel_none (v := undef) rfl), bset (bset HB.out GE4.out 0 _) GE4.out 1 _, (TB.out.far NE.out 0 _).far NE.out 1 _, dE_ (up_self b 7), fun _ => (Z4.out.put 0 _ rfl).put 1 _ rfl⟩
  exact steps_nil
 ·rintro b a w' hall ⟨ha, QHB, QTB, QZ4, QF4⟩
  clear HB TB Z4
  have hb0_ := hall 0 (by kernel_rfl)
  have hb1_ := hall 1 (by kernel_rfl)
  have hb2_ := hall 2 (by kernel_rfl)
  have hb3_ := hall 3 (by kernel_rfl)
  have hb4_ := hall 4 (by kernel_rfl)
  have hb5_ := hall 5 (by kernel_rfl)
  have hb6_ := hall 6 (by kernel_rfl)
  have hb7_ := hall 7 (by kernel_rfl)
  subst ha
  simp only [putSel, hb0_, hb1_, hb2_, hb3_, hb4_, hb5_, hb6_, hb7_, if_true, Act.put, List.setIfInBounds_toArray, List.set_cons_zero, List.set_cons_succ]
  have HB := aM_ QHB
  clear QHB
  have TB := aM_ QTB
  clear QTB
  clear QZ4
  have F4 := aM_ (QF4 hb7_)
  clear QF4
  clear hall hb0_ hb1_ hb2_ hb3_ hb4_ hb5_ hb6_ hb7_
  have HB5 := lH_ HB.out
  go_wp2_with fail
  refine bodyPost_ret (res_c (g := g4) rfl _ _ _ _ _ rfl F4.out rfl Try.underlying48 (by kernel_rfl)) rfl ⟨rfl, HB5.out⟩
/- outline's mapped, of deltas. -/
theorem mappedS_any (sv : Dl → I2) (dl : List Dl) (A : Option Addr) (c : Nat) (q1 q2 : Value) (w : World) (hl : dl.length ≤ 1000000) (hC : Kd.C kDl w A dl.length dl)
  (hf : ∀ j, j < dl.length → ∀ (Am : Option Addr) (cm : Nat), Kd.C kI2 w Am (dl.getD j zDl).moves.length (dl.getD j zDl).moves → ∀ w1, Below w.heap.size w w1 → Calls Try.prog 46 #[.agg #[.int .i64 (dl.getD j zDl).region, .int .i64 (dl.getD j zDl).adv, .slice Am (dl.getD j zDl).moves.length cm], q1, q2] w1 fun e w2 => e = .returned (.agg #[.int .i64 (sv (dl.getD j zDl)).a, .int .i64 (sv (dl.getD j zDl)).b]) ∧ Below w1.heap.size w1 w2) :
  Calls Try.prog 45 #[.slice A dl.length c, .func (.func 46) #[] #[q1, q2]] w fun e w' => ∃ V, e = .returned V ∧ Kd.R kI2 48 w' w.heap.size (fun _ => True) V (dl.map sv) ∧ Below w.heap.size w w' := by
 have HC := lH_ hC
 have HF := lH_ hf
 have hm : dl.length ≤ 9223372036854775807 := by omega
 clear hC hf
 go_enter Try.func45, Try.ntmps45
 go_wp2_with fail
 go_loopw [5, 10] (fun s i wr => ∃ (k : Nat) (ps : List I2) (Av : Option Addr) (cv : Nat), i = .int .i64 k ∧ k ≤ dl.length ∧ s = .slice Av ps.length cv ∧ ps.length ≤ 1000000 ∧ Hid (ps = (dl.take k).map sv) ∧ Hid (Kd.R kI2 48 wr w.heap.size (fun _ => True) (.slice Av ps.length cv) ps) ∧ Hid (Below w.heap.size w wr)) (fun _ i _ => dl.length - (intOf i).toNat)
 case atStart => exact ⟨0, [], none, 0, rfl, Nat.zero_le _, rfl, Nat.zero_le _, lH_ rfl, lH_ (Kd.R_nil _ _ _ _ _), lH_ (Below.refl _ _)⟩
 case round =>
  obtain ⟨k, ps, Av, cv, rfl, hk, rfl, hpl, HPS, HV, HBr⟩ := hrel
  by_cases hlt : k < dl.length
  ·have d1 : decide (k < dl.length) = true := decide_eq_true hlt
   obtain ⟨ad, c0, c1, c2', rfl, hK, p0, p1, p2⟩ := el3 (d := kDl) rfl HC.out zDl k hlt
   obtain ⟨Am, cm, hcs, hcm, hM⟩ := kDl_open hK
   simp only [List.cons.injEq, and_true] at hcs
   obtain ⟨rfl, rfl, rfl⟩ := hcs
   have HFJ := lH_ (HF.out k hlt Am cm hM)
   have HTK := lH_ (show (dl.take (k + 1)).map sv = ps ++ [sv (dl.getD k zDl)] by rw [take_at dl k hlt zDl, List.map_append, HPS.out]; rfl)
   have HPL := lH_ (show ps.length = k by rw [HPS.out, List.length_map, List.length_take]; omega)
   replace p0 := pw_cell_below HBr.out p0
   replace p1 := pw_cell_below HBr.out p1
   replace p2 := pw_cell_below HBr.out p2
   generalize dl.getD k zDl = d at *
   obtain ⟨r, av, ms⟩ := d
   dsimp only at p0 p1 p2 hM hcm HFJ
   generalize sv ⟨r, av, ms⟩ = s2 at *
   obtain ⟨sa, sb⟩ := s2
   dsimp only at HFJ
   have b0 : (0 : Int) ≤ (k : Int) := by omega
   have b1 : (k : Int) < (dl.length : Int) := by omega
   clear hK hM HPS
   go_upto_region 5 with fail
   obtain ⟨w2, g7, hw, hg, T, HT, _⟩ := new_box wr #[.int .i64 r, .int .i64 av, .slice Am ms.length cm] 59
   rw [hw, hg]
   clear hw hg p0 p1 p2
   have HB2 := lH_ (bthen' HBr.out HT.out)
   have HV2 := lH_ (Kd.R_below HV.out HT.out)
   have t0 := T.out.cell 0
   have t1 := T.out.cell 1
   have t2 := T.out.cell 2
   simp only [gA_, gZ_, gS_] at t0 t1 t2
   go_wp2_with fail
   refine (HFJ.out w2 HB2.out).mono ?_
   rintro e w3 ⟨rfl, hb⟩
   have HBb := lH_ (bthen' HB2.out hb)
   have HVb := lH_ (Kd.R_below HV2.out hb)
   clear hb t0 t1 t2 T HT HB2 HV2 HV HBr
   go_wp2_with (at_builtin; go_loud (refine Kd.R_append kI2 (W := w3) (w0 := w) w.heap.size rfl (.tmp 14) (.tmp 18) 99 48 _ 16 rfl (by kernel_rfl) infoSc rfl (by decide) (by omega) (.slice Av ps.length cv) ps ⟨sa, sb⟩ [.int .i64 sa, .int .i64 sb] (fun _ => True) (fun _ => False) rfl rfl (kI2_mkM _ _ _ ⟨sa, sb⟩) (fun _ h => h.elim) (fun _ _ => trivial) HVb.out HBb.out HBb.out.size (by omega) ?_); intro v4 w4 hR4 hB4 hG4 hat4; obtain ⟨A4, c4, rfl⟩ := Kd.R_slice hR4; have HR4 := lH_ hR4; have HB4 := lH_ hB4; clear hR4 hB4 hG4 hat4)
   exact ⟨⟨k + 1, ps ++ [⟨sa, sb⟩], A4, c4, by go_num, by omega, by simp, by rw [List.length_append, HPL.out]; simp; omega, lH_ HTK.out.symm, HR4, HB4⟩, by simp [intOf]; omega⟩
  ·have d1 : decide (k < dl.length) = false := decide_eq_false hlt
   have HT1 : Hid (ps = dl.map sv) := lH_ (by rw [HPS.out, List.take_of_length_le (by omega)])
   clear hlt
   go_wp2_with fail
   go_ret
   exact ⟨_, rfl, by rw [← HT1.out]; exact HV.out, HBr.out⟩
/- outline.spots, ranged over. -/
def spv (x : Nat × Pt) : Array Value := #[.int .i64 (x.1 : Int), .agg #[.int .i64 x.2.a, .int .i64 x.2.b, .bool x.2.c]]
def spK (f : Nat) (ps : List Pt) (k : Nat) : List (Nat × Pt) := (List.range k).map fun j => (f + j, ps.getD j zPt)
theorem spK_succ (f : Nat) (ps : List Pt) (k : Nat) : spK f ps (k + 1) = spK f ps k ++ [(f + k, ps.getD k zPt)] := by simp [spK, List.range_succ]
theorem spK_len (f : Nat) (ps : List Pt) (k : Nat) : (spK f ps k).length = k := by simp [spK]
theorem spots_any (A : Option Addr) (n c : Nat) (f : Int) (w : World) : Calls Try.prog 50 #[.slice A n c, .int .i64 f] w fun e w' => e = .returned (.func (.func 82) #[] #[.pointer (some ⟨w.heap.size, 0, none⟩), .pointer (some ⟨w.heap.size + 1, 0, none⟩)]) ∧ w' = (w.alloc (.cells #[.slice A n c] 71)).alloc (.cells #[.int .i64 f] 3) := by
 go_enter Try.func50, Try.ntmps50
 go_wp2
 go_ret
 exact ⟨rfl, rfl⟩
theorem spots1_in (P : Nat × Pt → Prop) (n l bA bB n0 : Nat) (G : Nat → Prop) (hn : 1 ≤ n) (ps : List Pt) (f : Nat) (A : Option Addr) (ca : Nat) (hpl : ps.length ≤ 1000000) (hfl : f ≤ 1000000) (W : World) (hn0 : n0 ≤ W.heap.size) (hGA : G bA) (hGB : G bB) (hP : ∀ k, k < ps.length → P (f + k, ps.getD k zPt)) (J Jx : List {x : Nat × Pt // P x} → World → Prop) (hJ : AbidesFrom W.heap.size J)
  (hY : ∀ pre x W1, J pre W1 → pre.length < ps.length → YieldAt Fence.wide (n - 1) Try.prog l (spv x.1) W1 fun e W' =>
   (e = .returned (.bool true) ∧ J (pre ++ [x]) W' ∧ KpG n0 G W1 W') ∨ (e = .returned (.bool false) ∧ Jx (pre ++ [x]) W'))
  (hcA : W.cell? ⟨bA, 0, none⟩ = some (.slice A ps.length ca)) (hcB : W.cell? ⟨bB, 0, none⟩ = some (.int .i64 (f : Int))) (hCA : ∀ W', KpG n0 G W W' → Kd.C kPt W' A ps.length ps) (h0 : J [] W) :
  CallsIn Fence.wide n Try.prog 82 #[.func (.yield l) #[] #[], .pointer (some ⟨bA, 0, none⟩), .pointer (some ⟨bB, 0, none⟩)] W fun e W' => (∃ v, e = .returned v) ∧
   ((∃ ys : List {x : Nat × Pt // P x}, ys.map (·.1) = spK f ps ps.length ∧ J ys W') ∨ (∃ pre : List {x : Nat × Pt // P x}, (∃ k, k ≤ ps.length ∧ pre.map (·.1) = spK f ps k) ∧ Jx pre W')) := by
 have HJ := lH_ hJ
 have HY := lH_ hY
 have HCA := lH_ hCA
 clear hJ hY hCA
 refine callsIn_of_wp Try.func82 rfl trivial ?_ rfl
 simp only [Try.ntmps82, List.size_toArray, List.length_cons, List.length_nil, Nat.reduceAdd, Nat.reduceSub, Array.replicate_succ, Array.replicate_zero, List.push_toArray, List.append_toArray, List.nil_append, List.cons_append]
 gi_wp2
 gi_loopw [8] (fun i wr => ∃ (k : Nat) (ys : List {x : Nat × Pt // P x}), k ≤ ps.length ∧ i = .int .i64 k ∧ Hid (ys.map (·.1) = spK f ps k) ∧ Hid (J ys wr) ∧ Hid (KpG n0 G W wr)) (fun i _ => ps.length - (intOf i).toNat)
 case atStart => exact ⟨0, [], Nat.zero_le _, rfl, lH_ rfl, lH_ h0, lH_ (KpG.refl _ _ _)⟩
 case round =>
 obtain ⟨k, ys, hk, rfl, HYS, HJs, HB⟩ := hrel
 by_cases hlt : k < ps.length
 case neg =>
  obtain rfl : k = ps.length := by omega
  gi_wp2
  go_end0
  exact ⟨⟨_, rfl⟩, .inl ⟨ys, HYS.out, HJs.out⟩⟩
 have hbA : wr.cell? ⟨bA, 0, none⟩ = some (.slice A ps.length ca) := HB.out.cell hGA hcA
 have hbB : wr.cell? ⟨bB, 0, none⟩ = some (.int .i64 (f : Int)) := HB.out.cell hGB hcB
 obtain ⟨ad, c0, c1, c2, rfl, hK, g0, g1, g2⟩ := el3 (d := kPt) rfl (HCA.out wr HB.out) zPt k hlt
 have hk' := kPt_open hK
 simp only [List.cons.injEq, and_true] at hk'
 obtain ⟨rfl, rfl, rfl⟩ := hk'
 have HZ := lH_ (spK_succ f ps k)
 have hcapB : (k : Int) < ps.length := by omega
 have HPL := lH_ (show ys.length < ps.length by have := congrArg List.length HYS.out; rw [List.length_map, spK_len] at this; omega)
 have HPX := lH_ (hP k hlt)
 have hcA' := lH_ hcA
 have hcB' := lH_ hcB
 clear hK hcA hcB
 generalize ps.getD k zPt = t at *
 gi_upto_region 3 with fail
 obtain ⟨w9, g5, hw, hg, T, HT, _⟩ := new_box wr #[.int .i64 t.a, .int .i64 t.b, .bool t.c] 73
 rw [hw, hg]
 clear hw hg g0 g1 g2
 have hbB := pw_cell_below HT.out hbB
 have t0 := T.out.cell 0
 have t1 := T.out.cell 1
 have t2 := T.out.cell 2
 simp only [gA_, gZ_, gS_] at t0 t1 t2
 obtain ⟨fn, tmps, assign, body, hy, hR⟩ := HY.out ys ⟨(f + k, t), HPX.out⟩ w9 (J_below HJ.out HJs.out HT.out) HPL.out
 unfold spv at hy
 dsimp only at hy
 rw [show ((f + k : Nat) : Int) = (f : Int) + (k : Int) by omega] at hy
 have HR := lH_ hR
 clear hR
 gi_wp2
 refine HR.out.mono ?_
 rintro e W3 (⟨rfl, hJ3, hk3⟩ | ⟨rfl, hJx3⟩)
 ·have HJ3 := lH_ hJ3
  have HK3 := lH_ hk3
  clear hJ3 hk3 hy
  gi_wp2
  exact ⟨⟨k + 1, ys ++ [⟨(f + k, t), HPX.out⟩], by omega, by go_num, lH_ (by rw [HZ.out, List.map_append, HYS.out]; rfl), HJ3, lH_ ((HB.out.step hn0 HT.out).trans HK3.out)⟩, by simp [intOf]; omega⟩
 ·have HJx3 := lH_ hJx3
  clear hJx3 hy
  gi_wp2
  refine bodyPost_ret (results_none rfl _ _ _) rfl ?_
  exact ⟨⟨_, rfl⟩, .inr ⟨_, ⟨k + 1, by omega, by rw [HZ.out, List.map_append, HYS.out]; rfl⟩, HJx3.out⟩⟩
theorem spots_stops (P : Nat × Pt → Prop) (n bA bB n0 : Nat) (G : Nat → Prop) (hn : 1 ≤ n) (ps : List Pt) (f : Nat) (A : Option Addr) (ca : Nat) (hpl : ps.length ≤ 1000000) (hfl : f ≤ 1000000) (w : World) (hn0 : n0 ≤ w.heap.size) (hGA : G bA) (hGB : G bB) (hP : ∀ k, k < ps.length → P (f + k, ps.getD k zPt))
  (hcA : w.cell? ⟨bA, 0, none⟩ = some (.slice A ps.length ca)) (hcB : w.cell? ⟨bB, 0, none⟩ = some (.int .i64 (f : Int))) (hCA : ∀ W', KpG n0 G w W' → Kd.C kPt W' A ps.length ps) :
  SeqStopsK Fence.wide n Try.prog 82 #[.pointer (some ⟨bA, 0, none⟩), .pointer (some ⟨bB, 0, none⟩)] (fun x : {x : Nat × Pt // P x} => spv x.1) (KpG n0 G) (fun ys => ys.map (·.1) = spK f ps ps.length) (fun pre => ∃ k, k ≤ ps.length ∧ pre.map (·.1) = spK f ps k) ps.length w := fun l J Jx W hW hJ _ hY h0 => by
 have hK : KpG n0 G w W := KpG.of hW hn0
 exact spots1_in P n l bA bB n0 G hn ps f A ca hpl hfl W (Nat.le_trans hn0 hW.size) hGA hGB hP J Jx hJ hY (hK.cell hGA hcA) (hK.cell hGB hcB) (fun W' h' => hCA W' (hK.trans h')) h0
/- outline's scaler: number. -/
structure Sc (n0 g : Nat) (w w' : World) : Prop where
 below : Below g w w'
 same : ∀ k, k < n0 → k ≠ g → w'.heap[k]? = w.heap[k]?
theorem Sc.refl (n0 g : Nat) (w : World) : Sc n0 g w w := ⟨Below.refl _ _, fun _ _ _ => rfl⟩
theorem Sc.trans {n0 g : Nat} {a b c : World} (h : Sc n0 g a b) (k : Sc n0 g b c) : Sc n0 g a c := ⟨h.below.trans k.below, fun i h1 h2 => (k.same i h1 h2).trans (h.same i h1 h2)⟩
theorem Sc.mono {n0 n1 g : Nat} {a b : World} (h : Sc n1 g a b) (hn : n0 ≤ n1) : Sc n0 g a b := ⟨h.below, fun i h1 h2 => h.same i (Nat.lt_of_lt_of_le h1 hn) h2⟩
theorem Sc.of {n0 n1 g : Nat} {a b : World} (h : Below n1 a b) (hn : n0 ≤ n1) (hg : g ≤ n1) : Sc n0 g a b := ⟨h.mono hg, fun i h1 _ => h.block i (Nat.lt_of_lt_of_le h1 hn)⟩
theorem Sc.setG (n0 g : Nat) (w : World) (j : Nat) (v : Value) : Sc n0 g w (w.setCell ⟨g, j, none⟩ v) := ⟨(Below.refl g w).setCell (p := ⟨g, j, none⟩) (Nat.le_refl g) v, fun i _ h2 => Below.heap_setCell _ _ _ _ h2⟩
theorem Sc.setN {n0 g b : Nat} (w : World) (hb : n0 ≤ b) (hg : g ≤ b) (j : Nat) (v : Value) : Sc n0 g w (w.setCell ⟨b, j, none⟩ v) := ⟨(Below.refl g w).setCell (p := ⟨b, j, none⟩) hg v, fun i h1 _ => Below.heap_setCell _ _ _ _ (show i ≠ b by omega)⟩
theorem Sc.step {n0 g : Nat} {a b c : World} (h : Sc n0 g a b) (hn : n0 ≤ b.heap.size) (hg : g ≤ b.heap.size) (k : Below b.heap.size b c) : Sc n0 g a c := h.trans (Sc.of k hn hg)
theorem Sc.blk {n0 g k : Nat} {w w' : World} {cs : Array Value} {t : TypeId} (h : Sc n0 g w w') (hk : Blk w k cs t) (hn : k < n0) (hg : k ≠ g) : Blk w' k cs t := (h.same k hn hg).trans hk
theorem Sc.size {n0 g : Nat} {w w' : World} (h : Sc n0 g w w') : w.heap.size ≤ w'.heap.size := h.below.size
theorem Sc.R {α : Type} {d : Kd α} {e base g : Nat} {ok : Nat → Prop} {w w' : World} {v : Value} {xs : List α} {cs : Array Value} {t : TypeId} (h : Kd.R d e w base ok v xs) (hb : Blk w g cs t) (ht : ∀ q, q ∈ e :: d.E → q ≠ t) (hs : Sc w.heap.size g w w') : Kd.R d e w' base ok v xs :=
 Kd.R_mono (Kd.R_step (Kd.R_types h hb ht) (fun k ho hk => hs.same k hk ho.2)) (fun _ hk => hk.1)
theorem number_any (n size : Int) (wg : Bool) (gs : Nat) (w : World) (hB : Blk w gs #[.int .i64 size, .bool wg] 116) : Calls Try.prog 56 #[.pointer (some ⟨gs, 0, none⟩), .int .i64 n] w fun e w' => e = .returned (.int .i64 (mulQ n size)) ∧ Sc w.heap.size gs w w' ∧ Blk w' gs #[.int .i64 size, .bool (wg || !mulOk n size)] 116 := by
 have HB := lH_ hB
 have c0 := hB.cell 0
 simp only [gA_, gZ_, gS_] at c0
 clear hB
 go_enter Try.func56, Try.ntmps56
 go_wp2_with fail
 refine (mul_any n size w).mono ?_
 rintro e w1 ⟨rfl, hb⟩
 have HB1 := lH_ (HB.out.below hb)
 have HX := lH_ hb
 clear hb c0
 obtain ⟨mq, hmq⟩ : ∃ v, mulQ n size = v := ⟨_, rfl⟩
 obtain ⟨mo, hmo⟩ : ∃ v, mulOk n size = v := ⟨_, rfl⟩
 rw [hmq, hmo]
 have HMQ := lH_ hmq
 have HMO := lH_ hmo
 have HLT := lH_ HB.out.lt
 have c1 := HB1.out.cell 1
 have f1 := HB1.out.frozen 1
 simp only [gA_, gZ_, gS_] at c1
 clear hmq hmo
 cases wg
 all_goals
  go_wp2_with fail
  go_ret
  exact ⟨ret_int HMQ.out.symm, (Sc.of HX.out (Nat.le_refl _) (Nat.le_of_lt HLT.out)).trans (Sc.setG _ _ _ _ _), HB1.out.put 1 _ (by rw [HMO.out]; rfl)⟩
/- outline's scaler: anchor and point. -/
def oAch.T1 : Bool × List (List Nat × List Nat) := (true, [([], []), ([], []), ([1], [1]), ([0, 2], [0, 2]), ([], []), ([], []), ([5], [5]), ([4, 6, 3], [4, 6]), ([0, 1, 2, 3, 5, 6], []), ([8, 3, 7, 0, 1, 2, 3, 5, 6], [3, 8]), ([0, 1, 2, 3, 4, 5, 6, 7, 8, 9], []), ([10, 7, 9, 0, 1, 2, 3, 4, 5, 6, 7, 8, 9], [7, 10])])
def oAch.B1 : List Nat := [0, 0, 2, 7, 0, 0, 32, 127, 111, 511, 1023, 2047]
theorem oAch.tab1 : rtab .any (opsOf Try.f55 1) = oAch.T1 := by kernel_rfl
theorem oAch.bits1 : waitsOk oAch.T1.2 oAch.B1 = true := by kernel_rfl
theorem oAch_any (x0 x1 x2 : Int) (size : Int) (wg : Bool) (gs : Nat) (w : World) (hB : Blk w gs #[.int .i64 size, .bool wg] 116) : Calls Try.prog 55 #[.pointer (some ⟨gs, 0, none⟩), .agg #[.int .i64 x0, .int .i64 x1, .int .i64 x2]] w fun e w' => e = .returned (.agg #[.int .i64 x0, .int .i64 (mulQ x1 size), .int .i64 (mulQ x2 size)]) ∧ Sc w.heap.size gs w w' ∧ Blk w' gs #[.int .i64 size, .bool ((wg || !mulOk x1 size) || !mulOk x2 size)] 116 := by
 have HB_ := lH_ hB
 have GSL := lH_ (Nat.le_of_lt hB.lt)
 clear hB
 obtain ⟨m1, hm1⟩ : ∃ v, mulQ x1 size = v := ⟨_, rfl⟩
 obtain ⟨m2, hm2⟩ : ∃ v, mulQ x2 size = v := ⟨_, rfl⟩
 obtain ⟨k1, hk1⟩ : ∃ v, mulOk x1 size = v := ⟨_, rfl⟩
 obtain ⟨k2, hk2⟩ : ∃ v, mulOk x2 size = v := ⟨_, rfl⟩
 rw [hm1, hm2, hk1, hk2]
 have M1 := lH_ hm1
 have M2 := lH_ hm2
 have K1 := lH_ hk1
 have K2 := lH_ hk2
 clear hm1 hm2 hk1 hk2
 go_enter Try.func55, Try.ntmps55
 go_upto_region 1 with fail
 obtain ⟨w1, g3, hw, hg, T, HX, _⟩ := new_box w #[.int .i64 x0, .int .i64 x1, .int .i64 x2] 25
 obtain ⟨w2, g4, hw2, hg2, Z2, HX2, _⟩ := new_box w1 #[.int .i64 0, .int .i64 0, .int .i64 0] 25
 have e5 : w.heap.size + 1 = g4 := by rw [← hg2, ← hw]; simp
 have NE34 := lH_ (show g3 ≠ g4 by omega)
 have NE3 := lH_ (show gs ≠ g3 by have := HB_.out.lt; omega)
 have NE4 := lH_ (show gs ≠ g4 by have := HB_.out.lt; omega)
 have GE3 := lH_ (show w.heap.size ≤ g3 by omega)
 have GE4 := lH_ (show w.heap.size ≤ g4 by omega)
 have GG3 := lH_ (show gs ≤ g3 by have := HB_.out.lt; omega)
 have GG4 := lH_ (show gs ≤ g4 by have := HB_.out.lt; omega)
 rw [hw, hw2, e5, hg]
 clear hw hg hw2 hg2 e5
 have T2_ := lH_ (T.out.below HX2.out)
 have HX_ : Hid (Below w.heap.size w w2) := lH_ (bthen' HX.out HX2.out)
 have GB2 := lH_ (HB_.out.below HX_.out)
 refine start_ (n := 12) (S := fun w' => True) (ds := []) #[false, false, false, false, false, false, false, false, false, false, false, false] (by kernel_rfl) rfl rfl trivial (fun hHeld => ?_)
 refine with_tabW oAch.tab1 oAch.bits1 (fun HT_ HW_ => ?_)
 have HB : Aside0 (Sc w.heap.size gs w w2.drew) := ⟨Sc.of (bdrew HX_.out) (Nat.le_refl _) GSL.out⟩
 have G0 : Aside0 (Blk w2.drew gs #[.int .i64 size, .bool wg] 116) := ⟨GB2.out.drew⟩
 have T0 : Aside0 (Blk w2.drew g3 #[.int .i64 x0, .int .i64 x1, .int .i64 x2] 25) := ⟨T2_.out.drew⟩
 have ZB : Aside0 (Blk w2.drew g4 #[.int .i64 0, .int .i64 0, .int .i64 0] 25) := ⟨Z2.out.drew⟩
 generalize hwd : w2.drew = w1' at *
 clear hwd
 refine inv_at [0, 1, 2, 3, 4, 5, 6, 7, 8, 9, 10, 11] (fun a0_ b a w' => a = putSel a0_ b [(0, 5, .pointer (some ⟨gs, 0, none⟩)), (1, 6, .pointer (some ⟨g3, 1, none⟩)), (2, 7, .int .i64 x1), (3, 8, .int .i64 m1), (4, 9, .pointer (some ⟨gs, 0, none⟩)), (5, 10, .pointer (some ⟨g3, 2, none⟩)), (6, 11, .int .i64 x2), (7, 12, .int .i64 m2), (8, 13, .pointer (some ⟨g3, 1, none⟩)), (10, 14, .pointer (some ⟨g3, 2, none⟩))] ∧ (Sc w.heap.size gs w w') ∧ (b 3 = false → Blk w' gs #[.int .i64 size, .bool wg] 116) ∧ (b 3 = true → b 7 = false → Blk w' gs #[.int .i64 size, .bool (wg || !k1)] 116) ∧ (b 7 = true → Blk w' gs #[.int .i64 size, .bool ((wg || !k1) || !k2)] 116) ∧ (b 9 = false → Blk w' g3 #[.int .i64 x0, .int .i64 x1, .int .i64 x2] 25) ∧ (b 9 = true → b 11 = false → Blk w' g3 #[.int .i64 x0, .int .i64 m1, .int .i64 x2] 25) ∧ (b 11 = true → Blk w' g3 #[.int .i64 x0, .int .i64 m1, .int .i64 m2] 25) ∧ (Blk w' g4 #[.int .i64 0, .int .i64 0, .int .i64 0] 25)) HT_.out HW_.out (by kernel_rfl) (by kernel_rfl) ?_ ?_ ?_
 ·exact ⟨by simp only [putSel, Bool.false_eq_true, if_false], HB.out, fun _ => G0.out, fun h_ => absurd h_ (by decide), fun h_ => absurd h_ (by decide), fun _ => T0.out, fun h_ => absurd h_ (by decide), fun h_ => absurd h_ (by decide), ZB.out⟩
 ·skip
  clear G0 HB T0 ZB
  refine steps_cons ?_ ?_
  ·rintro b a w' ⟨ha, QHB, QG0, QG1, QG2, QT0, QT1, QT2, QZB⟩ hb_ hon hoff
   refine ⟨_, rfl, fun K hK => ?_⟩
   have e0 : a.tmps[0]? = some (.pointer (some ⟨gs, 0, none⟩)) := by rw [ha]; exact (putSel_off rfl).trans rfl
   replace ha := aM_ ha
   have HB := aM_ QHB
   have G0 := aM_ (QG0 (hoff 3 rfl))
   have T0 := aM_ (QT0 (hoff 9 rfl))
   have ZB := aM_ QZB
   refine value_ (w1 := w') (v := .pointer (some ⟨gs, 0, none⟩)) (by rfl) rfl ?_ ?_
   ·go_simp
    (try simp only [i64_w])
    try rfl
   refine hK.out _ _ ⟨(by rw [ha.out]; exact putSel_upk 0 hb_ rfl rfl rfl), QHB, QG0, dD_ (hoff 3 rfl), dD_ (hoff 7 rfl), QT0, dD_ (hoff 9 rfl), dD_ (hoff 11 rfl), QZB⟩
  refine steps_cons ?_ ?_
  ·rintro b a w' ⟨ha, QHB, QG0, QG1, QG2, QT0, QT1, QT2, QZB⟩ hb_ hon hoff
   refine ⟨_, rfl, fun K hK => ?_⟩
   have e3 : a.tmps[3]? = some (.pointer (some ⟨g3, 0, none⟩)) := by rw [ha]; exact (putSel_off rfl).trans rfl
   replace ha := aM_ ha
   have HB := aM_ QHB
   have G0 := aM_ (QG0 (hoff 3 rfl))
   have T0 := aM_ (QT0 (hoff 9 rfl))
   have ZB := aM_ QZB
   refine value_ (w1 := w') (v := .pointer (some ⟨g3, 1, none⟩)) (by rfl) rfl ?_ ?_
   ·go_simp
    (try simp only [i64_w])
    try rfl
   refine hK.out _ _ ⟨(by rw [ha.out]; exact putSel_upk 1 hb_ rfl rfl rfl), QHB, QG0, dD_ (hoff 3 rfl), dD_ (hoff 7 rfl), QT0, dD_ (hoff 9 rfl), dD_ (hoff 11 rfl), QZB⟩
  refine steps_cons ?_ ?_
  ·rintro b a w' ⟨ha, QHB, QG0, QG1, QG2, QT0, QT1, QT2, QZB⟩ hb_ hon hoff
   refine ⟨_, rfl, fun K hK => ?_⟩
   have e6 : a.tmps[6]? = some (.pointer (some ⟨g3, 1, none⟩)) := by rw [ha]; exact putSel_on (e := (1, 6, .pointer (some ⟨g3, 1, none⟩))) 1 rfl rfl (hon 1 rfl) rfl
   replace ha := aM_ ha
   have HB := aM_ QHB
   have G0 := aM_ (QG0 (hoff 3 rfl))
   have T0 := aM_ (QT0 (hoff 9 rfl))
   have ZB := aM_ QZB
   have z0 : w'.cell? ⟨g3, 1, none⟩ = some (.int .i64 x1) := T0.out.cell 1
   refine value_ (w1 := w') (v := .int .i64 x1) (by rfl) rfl ?_ ?_
   ·go_simp
    (try simp only [i64_w])
    try rfl
   refine hK.out _ _ ⟨(by rw [ha.out]; exact putSel_upk 2 hb_ rfl rfl rfl), QHB, QG0, dD_ (hoff 3 rfl), dD_ (hoff 7 rfl), QT0, dD_ (hoff 9 rfl), dD_ (hoff 11 rfl), QZB⟩
  refine steps_cons ?_ ?_
  ·rintro b a w' ⟨ha, QHB, QG0, QG1, QG2, QT0, QT1, QT2, QZB⟩ hb_ hon hoff
   refine ⟨_, rfl, fun K hK => ?_⟩
   have e5 : a.tmps[5]? = some (.pointer (some ⟨gs, 0, none⟩)) := by rw [ha]; exact putSel_on (e := (0, 5, .pointer (some ⟨gs, 0, none⟩))) 0 rfl rfl (hon 0 rfl) rfl
   have e7 : a.tmps[7]? = some (.int .i64 x1) := by rw [ha]; exact putSel_on (e := (2, 7, .int .i64 x1)) 2 rfl rfl (hon 2 rfl) rfl
   replace ha := aM_ ha
   have HB := aM_ QHB
   have G0 := aM_ (QG0 hb_)
   have T0 := aM_ (QT0 (hoff 9 rfl))
   have ZB := aM_ QZB
   refine call_ 56 #[.pointer (some ⟨gs, 0, none⟩), .int .i64 x1] (by rfl) rfl ?_ ?_
   ·go_simp
   refine (number_any x1 size wg gs w' G0.out).mono ?_
   rintro e w2' ⟨rfl, hs, hbk⟩
   rw [M1.out]
   rw [K1.out] at hbk
   refine ⟨_, rfl, ?_⟩
   refine hK.out _ _ ⟨(by rw [ha.out]; exact putSel_upk 3 hb_ rfl rfl rfl), HB.out.trans (hs.mono HB.out.size), dE_ (up_self b 3), fun _ _ => hbk, dD_ (hoff 7 rfl), fun _ => hs.blk T0.out T0.out.lt (Ne.symm NE3.out), dD_ (hoff 9 rfl), dD_ (hoff 11 rfl), hs.blk ZB.out ZB.out.lt (Ne.symm NE4.out)⟩
  refine steps_cons ?_ ?_
  ·rintro b a w' ⟨ha, QHB, QG0, QG1, QG2, QT0, QT1, QT2, QZB⟩ hb_ hon hoff
   refine ⟨_, rfl, fun K hK => ?_⟩
   have e0 : a.tmps[0]? = some (.pointer (some ⟨gs, 0, none⟩)) := by rw [ha]; exact (putSel_off rfl).trans rfl
   replace ha := aM_ ha
   have HB := aM_ QHB
   have T0 := aM_ (QT0 (hoff 9 rfl))
   have ZB := aM_ QZB
   refine value_ (w1 := w') (v := .pointer (some ⟨gs, 0, none⟩)) (by rfl) rfl ?_ ?_
   ·go_simp
    (try simp only [i64_w])
    try rfl
   refine hK.out _ _ ⟨(by rw [ha.out]; exact putSel_upk 4 hb_ rfl rfl rfl), QHB, QG0, QG1, dD_ (hoff 7 rfl), QT0, dD_ (hoff 9 rfl), dD_ (hoff 11 rfl), QZB⟩
  refine steps_cons ?_ ?_
  ·rintro b a w' ⟨ha, QHB, QG0, QG1, QG2, QT0, QT1, QT2, QZB⟩ hb_ hon hoff
   refine ⟨_, rfl, fun K hK => ?_⟩
   have e3 : a.tmps[3]? = some (.pointer (some ⟨g3, 0, none⟩)) := by rw [ha]; exact (putSel_off rfl).trans rfl
   replace ha := aM_ ha
   have HB := aM_ QHB
   have T0 := aM_ (QT0 (hoff 9 rfl))
   have ZB := aM_ QZB
   refine value_ (w1 := w') (v := .pointer (some ⟨g3, 2, none⟩)) (by rfl) rfl ?_ ?_
   ·go_simp
    (try simp only [i64_w])
    try rfl
   refine hK.out _ _ ⟨(by rw [ha.out]; exact putSel_upk 5 hb_ rfl rfl rfl), QHB, QG0, QG1, dD_ (hoff 7 rfl), QT0, dD_ (hoff 9 rfl), dD_ (hoff 11 rfl), QZB⟩
  refine steps_cons ?_ ?_
  ·rintro b a w' ⟨ha, QHB, QG0, QG1, QG2, QT0, QT1, QT2, QZB⟩ hb_ hon hoff
   refine ⟨_, rfl, fun K hK => ?_⟩
   have e10 : a.tmps[10]? = some (.pointer (some ⟨g3, 2, none⟩)) := by rw [ha]; exact putSel_on (e := (5, 10, .pointer (some ⟨g3, 2, none⟩))) 5 rfl rfl (hon 5 rfl) rfl
   replace ha := aM_ ha
   have HB := aM_ QHB
   have T0 := aM_ (QT0 (hoff 9 rfl))
   have ZB := aM_ QZB
   have z0 : w'.cell? ⟨g3, 2, none⟩ = some (.int .i64 x2) := T0.out.cell 2
   refine value_ (w1 := w') (v := .int .i64 x2) (by rfl) rfl ?_ ?_
   ·go_simp
    (try simp only [i64_w])
    try rfl
   refine hK.out _ _ ⟨(by rw [ha.out]; exact putSel_upk 6 hb_ rfl rfl rfl), QHB, QG0, QG1, dD_ (hoff 7 rfl), QT0, dD_ (hoff 9 rfl), dD_ (hoff 11 rfl), QZB⟩
  refine steps_cons ?_ ?_
  ·rintro b a w' ⟨ha, QHB, QG0, QG1, QG2, QT0, QT1, QT2, QZB⟩ hb_ hon hoff
   refine ⟨_, rfl, fun K hK => ?_⟩
   have e9 : a.tmps[9]? = some (.pointer (some ⟨gs, 0, none⟩)) := by rw [ha]; exact putSel_on (e := (4, 9, .pointer (some ⟨gs, 0, none⟩))) 4 rfl rfl (hon 4 rfl) rfl
   have e11 : a.tmps[11]? = some (.int .i64 x2) := by rw [ha]; exact putSel_on (e := (6, 11, .int .i64 x2)) 6 rfl rfl (hon 6 rfl) rfl
   replace ha := aM_ ha
   have HB := aM_ QHB
   have G1 := aM_ (QG1 (hon 3 rfl) hb_)
   have T0 := aM_ (QT0 (hoff 9 rfl))
   have ZB := aM_ QZB
   refine call_ 56 #[.pointer (some ⟨gs, 0, none⟩), .int .i64 x2] (by rfl) rfl ?_ ?_
   ·go_simp
   refine (number_any x2 size (wg || !k1) gs w' G1.out).mono ?_
   rintro e w2' ⟨rfl, hs, hbk⟩
   rw [M2.out]
   rw [K2.out] at hbk
   refine ⟨_, rfl, ?_⟩
   refine hK.out _ _ ⟨(by rw [ha.out]; exact putSel_upk 7 hb_ rfl rfl rfl), HB.out.trans (hs.mono HB.out.size), fun h0_ => absurd ((hon 3 rfl).symm.trans h0_) (by decide), fun _ => dE_ (up_self b 7), fun _ => hbk, fun _ => hs.blk T0.out T0.out.lt (Ne.symm NE3.out), dD_ (hoff 9 rfl), dD_ (hoff 11 rfl), hs.blk ZB.out ZB.out.lt (Ne.symm NE4.out)⟩
  refine steps_cons ?_ ?_
  ·rintro b a w' ⟨ha, QHB, QG0, QG1, QG2, QT0, QT1, QT2, QZB⟩ hb_ hon hoff
   refine ⟨_, rfl, fun K hK => ?_⟩
   have e3 : a.tmps[3]? = some (.pointer (some ⟨g3, 0, none⟩)) := by rw [ha]; exact (putSel_off rfl).trans rfl
   replace ha := aM_ ha
   have HB := aM_ QHB
   have T0 := aM_ (QT0 (hoff 9 rfl))
   have ZB := aM_ QZB
   refine value_ (w1 := w') (v := .pointer (some ⟨g3, 1, none⟩)) (by rfl) rfl ?_ ?_
   ·go_simp
    (try simp only [i64_w])
    try rfl
   refine hK.out _ _ ⟨(by rw [ha.out]; exact putSel_upk 8 hb_ rfl rfl rfl), QHB, fun h0_ => absurd ((hon 3 rfl).symm.trans h0_) (by decide), QG1, QG2, QT0, dD_ (hoff 9 rfl), dD_ (hoff 11 rfl), QZB⟩
  refine steps_cons ?_ ?_
  ·rintro b a w' ⟨ha, QHB, QG0, QG1, QG2, QT0, QT1, QT2, QZB⟩ hb_ hon hoff
   refine ⟨_, rfl, fun K hK => ?_⟩
   have e13 : a.tmps[13]? = some (.pointer (some ⟨g3, 1, none⟩)) := by rw [ha]; exact putSel_on (e := (8, 13, .pointer (some ⟨g3, 1, none⟩))) 8 rfl rfl (hon 8 rfl) rfl
   have e8 : a.tmps[8]? = some (.int .i64 m1) := by rw [ha]; exact putSel_on (e := (3, 8, .int .i64 m1)) 3 rfl rfl (hon 3 rfl) rfl
   replace ha := aM_ ha
   have HB := aM_ QHB
   have G2 := aM_ (QG2 (hon 7 rfl))
   have T0 := aM_ (QT0 hb_)
   have ZB := aM_ QZB
   have c0 : w'.cell? ⟨g3, 1, none⟩ = some (.int .i64 x1) := T0.out.cell 1
   have f0 : w'.frozen? ⟨g3, 1, none⟩ = false := T0.out.frozen 1
   refine skip_ (w1 := w'.setCell ⟨g3, 1, none⟩ (.int .i64 m1)) (by rfl) rfl ?_ ?_
   ·go_simp
   refine hK.out _ _ ⟨(by rw [ha.out]; exact putSel_none (v := undef) rfl), HB.out.trans (Sc.setN w' GE3.out GG3.out 1 _), fun h0_ => absurd ((hon 3 rfl).symm.trans h0_) (by decide), fun _ => dE_ (hon 7 rfl), fun _ => G2.out.far NE3.out 1 _, dE_ (up_self b 9), fun _ _ => T0.out.put 1 _ rfl, dD_ (hoff 11 rfl), ZB.out.far (Ne.symm NE34.out) 1 _⟩
  refine steps_cons ?_ ?_
  ·rintro b a w' ⟨ha, QHB, QG0, QG1, QG2, QT0, QT1, QT2, QZB⟩ hb_ hon hoff
   refine ⟨_, rfl, fun K hK => ?_⟩
   have e3 : a.tmps[3]? = some (.pointer (some ⟨g3, 0, none⟩)) := by rw [ha]; exact (putSel_off rfl).trans rfl
   replace ha := aM_ ha
   have HB := aM_ QHB
   have G2 := aM_ (QG2 (hon 7 rfl))
   have T1 := aM_ (QT1 (hon 9 rfl) (hoff 11 rfl))
   have ZB := aM_ QZB
   refine value_ (w1 := w') (v := .pointer (some ⟨g3, 2, none⟩)) (by rfl) rfl ?_ ?_
   ·go_simp
    (try simp only [i64_w])
    try rfl
   refine hK.out _ _ ⟨(by rw [ha.out]; exact putSel_upk 9 hb_ rfl rfl rfl), QHB, fun h0_ => absurd ((hon 3 rfl).symm.trans h0_) (by decide), fun _ => dE_ (hon 7 rfl), QG2, fun h0_ => absurd ((hon 9 rfl).symm.trans h0_) (by decide), QT1, dD_ (hoff 11 rfl), QZB⟩
  refine steps_cons ?_ ?_
  ·rintro b a w' ⟨ha, QHB, QG0, QG1, QG2, QT0, QT1, QT2, QZB⟩ hb_ hon hoff
   refine ⟨_, rfl, fun K hK => ?_⟩
   have e14 : a.tmps[14]? = some (.pointer (some ⟨g3, 2, none⟩)) := by rw [ha]; exact putSel_on (e := (10, 14, .pointer (some ⟨g3, 2, none⟩))) 9 rfl rfl (hon 10 rfl) rfl
   have e12 : a.tmps[12]? = some (.int .i64 m2) := by rw [ha]; exact putSel_on (e := (7, 12, .int .i64 m2)) 7 rfl rfl (hon 7 rfl) rfl
   replace ha := aM_ ha
   have HB := aM_ QHB
   have G2 := aM_ (QG2 (hon 7 rfl))
   have T1 := aM_ (QT1 (hon 9 rfl) hb_)
   have ZB := aM_ QZB
   have c0 : w'.cell? ⟨g3, 2, none⟩ = some (.int .i64 x2) := T1.out.cell 2
   have f0 : w'.frozen? ⟨g3, 2, none⟩ = false := T1.out.frozen 2
   refine skip_ (w1 := w'.setCell ⟨g3, 2, none⟩ (.int .i64 m2)) (by rfl) rfl ?_ ?_
   ·go_simp
   refine hK.out _ _ ⟨(by rw [ha.out]; exact putSel_none (v := undef) rfl), HB.out.trans (Sc.setN w' GE3.out GG3.out 2 _), fun h0_ => absurd ((hon 3 rfl).symm.trans h0_) (by decide), fun _ => dE_ (hon 7 rfl), fun _ => G2.out.far NE3.out 2 _, fun h0_ => absurd ((hon 9 rfl).symm.trans h0_) (by decide), fun _ => dE_ (up_self b 11), fun _ => T1.out.put 2 _ rfl, ZB.out.far (Ne.symm NE34.out) 2 _⟩
  exact steps_nil
 ·rintro b a w' hall ⟨ha, QHB, QG0, QG1, QG2, QT0, QT1, QT2, QZB⟩
  clear G0 HB T0 ZB
  have hb0_ := hall 0 (by kernel_rfl)
  have hb1_ := hall 1 (by kernel_rfl)
  have hb2_ := hall 2 (by kernel_rfl)
  have hb3_ := hall 3 (by kernel_rfl)
  have hb4_ := hall 4 (by kernel_rfl)
  have hb5_ := hall 5 (by kernel_rfl)
  have hb6_ := hall 6 (by kernel_rfl)
  have hb7_ := hall 7 (by kernel_rfl)
  have hb8_ := hall 8 (by kernel_rfl)
  have hb9_ := hall 9 (by kernel_rfl)
  have hb10_ := hall 10 (by kernel_rfl)
  have hb11_ := hall 11 (by kernel_rfl)
  subst ha
  simp only [putSel, hb0_, hb1_, hb2_, hb3_, hb4_, hb5_, hb6_, hb7_, hb8_, hb9_, hb10_, hb11_, if_true, Act.put, List.setIfInBounds_toArray, List.set_cons_zero, List.set_cons_succ]
  have HB := aM_ QHB
  clear QHB
  clear QG0
  clear QG1
  have G2 := aM_ (QG2 hb7_)
  clear QG2
  clear QT0
  clear QT1
  have T2 := aM_ (QT2 hb11_)
  clear QT2
  have ZB := aM_ QZB
  clear QZB
  clear hall hb0_ hb1_ hb2_ hb3_ hb4_ hb5_ hb6_ hb7_ hb8_ hb9_ hb10_ hb11_
  have t0 := T2.out.cell 0
  have t1 := T2.out.cell 1
  have t2 := T2.out.cell 2
  have z0 := ZB.out.cell 0
  have z1 := ZB.out.cell 1
  have z2 := ZB.out.cell 2
  have y0 := ZB.out.frozen 0
  have y1 := ZB.out.frozen 1
  have y2 := ZB.out.frozen 2
  simp only [gA_, gZ_, gS_] at t0 z0 t1 z1 t2 z2
  go_wp2_with fail
  refine bodyPost_ret (res_c (g := g4) rfl _ _ _ _ _ rfl (((ZB.out.put 0 _ rfl).put 1 _ rfl).put 2 _ rfl) rfl Try.underlying25 (by kernel_rfl)) rfl ⟨rfl, (((HB.out.trans (Sc.setN _ GE4.out GG4.out 0 _)).trans (Sc.setN _ GE4.out GG4.out 1 _)).trans (Sc.setN _ GE4.out GG4.out 2 _)), (((G2.out.far NE4.out 0 _).far NE4.out 1 _).far NE4.out 2 _)⟩
def oPt.T1 : Bool × List (List Nat × List Nat) := (true, [([], []), ([], []), ([1], [1]), ([0, 2], [0, 2]), ([], []), ([], []), ([5], [5]), ([4, 6, 3], [4, 6]), ([0, 1, 2, 3, 5, 6], []), ([8, 3, 7, 0, 1, 2, 3, 5, 6], [3, 8]), ([0, 1, 2, 3, 4, 5, 6, 7, 8, 9], []), ([10, 7, 9, 0, 1, 2, 3, 4, 5, 6, 7, 8, 9], [7, 10])])
def oPt.B1 : List Nat := [0, 0, 2, 7, 0, 0, 32, 127, 111, 511, 1023, 2047]
theorem oPt.tab1 : rtab .any (opsOf Try.f60 1) = oPt.T1 := by kernel_rfl
theorem oPt.bits1 : waitsOk oPt.T1.2 oPt.B1 = true := by kernel_rfl
theorem oPt_any (x0 x1 : Int) (x2 : Bool) (size : Int) (wg : Bool) (gs : Nat) (w : World) (hB : Blk w gs #[.int .i64 size, .bool wg] 116) : Calls Try.prog 60 #[.pointer (some ⟨gs, 0, none⟩), .agg #[.int .i64 x0, .int .i64 x1, .bool x2]] w fun e w' => e = .returned (.agg #[.int .i64 (mulQ x0 size), .int .i64 (mulQ x1 size), .bool x2]) ∧ Sc w.heap.size gs w w' ∧ Blk w' gs #[.int .i64 size, .bool ((wg || !mulOk x0 size) || !mulOk x1 size)] 116 := by
 have HB_ := lH_ hB
 have GSL := lH_ (Nat.le_of_lt hB.lt)
 clear hB
 obtain ⟨m1, hm1⟩ : ∃ v, mulQ x0 size = v := ⟨_, rfl⟩
 obtain ⟨m2, hm2⟩ : ∃ v, mulQ x1 size = v := ⟨_, rfl⟩
 obtain ⟨k1, hk1⟩ : ∃ v, mulOk x0 size = v := ⟨_, rfl⟩
 obtain ⟨k2, hk2⟩ : ∃ v, mulOk x1 size = v := ⟨_, rfl⟩
 rw [hm1, hm2, hk1, hk2]
 have M1 := lH_ hm1
 have M2 := lH_ hm2
 have K1 := lH_ hk1
 have K2 := lH_ hk2
 clear hm1 hm2 hk1 hk2
 go_enter Try.func60, Try.ntmps60
 go_upto_region 1 with fail
 obtain ⟨w1, g3, hw, hg, T, HX, _⟩ := new_box w #[.int .i64 x0, .int .i64 x1, .bool x2] 73
 obtain ⟨w2, g4, hw2, hg2, Z2, HX2, _⟩ := new_box w1 #[.int .i64 0, .int .i64 0, .bool false] 73
 have e5 : w.heap.size + 1 = g4 := by rw [← hg2, ← hw]; simp
 have NE34 := lH_ (show g3 ≠ g4 by omega)
 have NE3 := lH_ (show gs ≠ g3 by have := HB_.out.lt; omega)
 have NE4 := lH_ (show gs ≠ g4 by have := HB_.out.lt; omega)
 have GE3 := lH_ (show w.heap.size ≤ g3 by omega)
 have GE4 := lH_ (show w.heap.size ≤ g4 by omega)
 have GG3 := lH_ (show gs ≤ g3 by have := HB_.out.lt; omega)
 have GG4 := lH_ (show gs ≤ g4 by have := HB_.out.lt; omega)
 rw [hw, hw2, e5, hg]
 clear hw hg hw2 hg2 e5
 have T2_ := lH_ (T.out.below HX2.out)
 have HX_ : Hid (Below w.heap.size w w2) := lH_ (bthen' HX.out HX2.out)
 have GB2 := lH_ (HB_.out.below HX_.out)
 refine start_ (n := 12) (S := fun w' => True) (ds := []) #[false, false, false, false, false, false, false, false, false, false, false, false] (by kernel_rfl) rfl rfl trivial (fun hHeld => ?_)
 refine with_tabW oPt.tab1 oPt.bits1 (fun HT_ HW_ => ?_)
 have HB : Aside0 (Sc w.heap.size gs w w2.drew) := ⟨Sc.of (bdrew HX_.out) (Nat.le_refl _) GSL.out⟩
 have G0 : Aside0 (Blk w2.drew gs #[.int .i64 size, .bool wg] 116) := ⟨GB2.out.drew⟩
 have T0 : Aside0 (Blk w2.drew g3 #[.int .i64 x0, .int .i64 x1, .bool x2] 73) := ⟨T2_.out.drew⟩
 have ZB : Aside0 (Blk w2.drew g4 #[.int .i64 0, .int .i64 0, .bool false] 73) := ⟨Z2.out.drew⟩
 generalize hwd : w2.drew = w1' at *
 clear hwd
 refine inv_at [0, 1, 2, 3, 4, 5, 6, 7, 8, 9, 10, 11] (fun a0_ b a w' => a = putSel a0_ b [(0, 5, .pointer (some ⟨gs, 0, none⟩)), (1, 6, .pointer (some ⟨g3, 0, none⟩)), (2, 7, .int .i64 x0), (3, 8, .int .i64 m1), (4, 9, .pointer (some ⟨gs, 0, none⟩)), (5, 10, .pointer (some ⟨g3, 1, none⟩)), (6, 11, .int .i64 x1), (7, 12, .int .i64 m2), (8, 13, .pointer (some ⟨g3, 0, none⟩)), (10, 14, .pointer (some ⟨g3, 1, none⟩))] ∧ (Sc w.heap.size gs w w') ∧ (b 3 = false → Blk w' gs #[.int .i64 size, .bool wg] 116) ∧ (b 3 = true → b 7 = false → Blk w' gs #[.int .i64 size, .bool (wg || !k1)] 116) ∧ (b 7 = true → Blk w' gs #[.int .i64 size, .bool ((wg || !k1) || !k2)] 116) ∧ (b 9 = false → Blk w' g3 #[.int .i64 x0, .int .i64 x1, .bool x2] 73) ∧ (b 9 = true → b 11 = false → Blk w' g3 #[.int .i64 m1, .int .i64 x1, .bool x2] 73) ∧ (b 11 = true → Blk w' g3 #[.int .i64 m1, .int .i64 m2, .bool x2] 73) ∧ (Blk w' g4 #[.int .i64 0, .int .i64 0, .bool false] 73)) HT_.out HW_.out (by kernel_rfl) (by kernel_rfl) ?_ ?_ ?_
 ·exact ⟨by simp only [putSel, Bool.false_eq_true, if_false], HB.out, fun _ => G0.out, fun h_ => absurd h_ (by decide), fun h_ => absurd h_ (by decide), fun _ => T0.out, fun h_ => absurd h_ (by decide), fun h_ => absurd h_ (by decide), ZB.out⟩
 ·skip
  clear G0 HB T0 ZB
  refine steps_cons ?_ ?_
  ·rintro b a w' ⟨ha, QHB, QG0, QG1, QG2, QT0, QT1, QT2, QZB⟩ hb_ hon hoff
   refine ⟨_, rfl, fun K hK => ?_⟩
   have e0 : a.tmps[0]? = some (.pointer (some ⟨gs, 0, none⟩)) := by rw [ha]; exact (putSel_off rfl).trans rfl
   replace ha := aM_ ha
   have HB := aM_ QHB
   have G0 := aM_ (QG0 (hoff 3 rfl))
   have T0 := aM_ (QT0 (hoff 9 rfl))
   have ZB := aM_ QZB
   refine value_ (w1 := w') (v := .pointer (some ⟨gs, 0, none⟩)) (by rfl) rfl ?_ ?_
   ·go_simp
    (try simp only [i64_w])
    try rfl
   refine hK.out _ _ ⟨(by rw [ha.out]; exact putSel_upk 0 hb_ rfl rfl rfl), QHB, QG0, dD_ (hoff 3 rfl), dD_ (hoff 7 rfl), QT0, dD_ (hoff 9 rfl), dD_ (hoff 11 rfl), QZB⟩
  refine steps_cons ?_ ?_
  ·rintro b a w' ⟨ha, QHB, QG0, QG1, QG2, QT0, QT1, QT2, QZB⟩ hb_ hon hoff
   refine ⟨_, rfl, fun K hK => ?_⟩
   have e3 : a.tmps[3]? = some (.pointer (some ⟨g3, 0, none⟩)) := by rw [ha]; exact (putSel_off rfl).trans rfl
   replace ha := aM_ ha
   have HB := aM_ QHB
   have G0 := aM_ (QG0 (hoff 3 rfl))
   have T0 := aM_ (QT0 (hoff 9 rfl))
   have ZB := aM_ QZB
   refine value_ (w1 := w') (v := .pointer (some ⟨g3, 0, none⟩)) (by rfl) rfl ?_ ?_
   ·go_simp
    (try simp only [i64_w])
    try rfl
   refine hK.out _ _ ⟨(by rw [ha.out]; exact putSel_upk 1 hb_ rfl rfl rfl), QHB, QG0, dD_ (hoff 3 rfl), dD_ (hoff 7 rfl), QT0, dD_ (hoff 9 rfl), dD_ (hoff 11 rfl), QZB⟩
  refine steps_cons ?_ ?_
  ·rintro b a w' ⟨ha, QHB, QG0, QG1, QG2, QT0, QT1, QT2, QZB⟩ hb_ hon hoff
   refine ⟨_, rfl, fun K hK => ?_⟩
   have e6 : a.tmps[6]? = some (.pointer (some ⟨g3, 0, none⟩)) := by rw [ha]; exact putSel_on (e := (1, 6, .pointer (some ⟨g3, 0, none⟩))) 1 rfl rfl (hon 1 rfl) rfl
   replace ha := aM_ ha
   have HB := aM_ QHB
   have G0 := aM_ (QG0 (hoff 3 rfl))
   have T0 := aM_ (QT0 (hoff 9 rfl))
   have ZB := aM_ QZB
   have z0 : w'.cell? ⟨g3, 0, none⟩ = some (.int .i64 x0) := T0.out.cell 0
   refine value_ (w1 := w') (v := .int .i64 x0) (by rfl) rfl ?_ ?_
   ·go_simp
    (try simp only [i64_w])
    try rfl
   refine hK.out _ _ ⟨(by rw [ha.out]; exact putSel_upk 2 hb_ rfl rfl rfl), QHB, QG0, dD_ (hoff 3 rfl), dD_ (hoff 7 rfl), QT0, dD_ (hoff 9 rfl), dD_ (hoff 11 rfl), QZB⟩
  refine steps_cons ?_ ?_
  ·rintro b a w' ⟨ha, QHB, QG0, QG1, QG2, QT0, QT1, QT2, QZB⟩ hb_ hon hoff
   refine ⟨_, rfl, fun K hK => ?_⟩
   have e5 : a.tmps[5]? = some (.pointer (some ⟨gs, 0, none⟩)) := by rw [ha]; exact putSel_on (e := (0, 5, .pointer (some ⟨gs, 0, none⟩))) 0 rfl rfl (hon 0 rfl) rfl
   have e7 : a.tmps[7]? = some (.int .i64 x0) := by rw [ha]; exact putSel_on (e := (2, 7, .int .i64 x0)) 2 rfl rfl (hon 2 rfl) rfl
   replace ha := aM_ ha
   have HB := aM_ QHB
   have G0 := aM_ (QG0 hb_)
   have T0 := aM_ (QT0 (hoff 9 rfl))
   have ZB := aM_ QZB
   refine call_ 56 #[.pointer (some ⟨gs, 0, none⟩), .int .i64 x0] (by rfl) rfl ?_ ?_
   ·go_simp
   refine (number_any x0 size wg gs w' G0.out).mono ?_
   rintro e w2' ⟨rfl, hs, hbk⟩
   rw [M1.out]
   rw [K1.out] at hbk
   refine ⟨_, rfl, ?_⟩
   refine hK.out _ _ ⟨(by rw [ha.out]; exact putSel_upk 3 hb_ rfl rfl rfl), HB.out.trans (hs.mono HB.out.size), dE_ (up_self b 3), fun _ _ => hbk, dD_ (hoff 7 rfl), fun _ => hs.blk T0.out T0.out.lt (Ne.symm NE3.out), dD_ (hoff 9 rfl), dD_ (hoff 11 rfl), hs.blk ZB.out ZB.out.lt (Ne.symm NE4.out)⟩
  refine steps_cons ?_ ?_
  ·rintro b a w' ⟨ha, QHB, QG0, QG1, QG2, QT0, QT1, QT2, QZB⟩ hb_ hon hoff
   refine ⟨_, rfl, fun K hK => ?_⟩
   have e0 : a.tmps[0]? = some (.pointer (some ⟨gs, 0, none⟩)) := by rw [ha]; exact (putSel_off rfl).trans rfl
   replace ha := aM_ ha
   have HB := aM_ QHB
   have T0 := aM_ (QT0 (hoff 9 rfl))
   have ZB := aM_ QZB
   refine value_ (w1 := w') (v := .pointer (some ⟨gs, 0, none⟩)) (by rfl) rfl ?_ ?_
   ·go_simp
    (try simp only [i64_w])
    try rfl
   refine hK.out _ _ ⟨(by rw [ha.out]; exact putSel_upk 4 hb_ rfl rfl rfl), QHB, QG0, QG1, dD_ (hoff 7 rfl), QT0, dD_ (hoff 9 rfl), dD_ (hoff 11 rfl), QZB⟩
  refine steps_cons ?_ ?_
  ·rintro b a w' ⟨ha, QHB, QG0, QG1, QG2, QT0, QT1, QT2, QZB⟩ hb_ hon hoff
   refine ⟨_, rfl, fun K hK => ?_⟩
   have e3 : a.tmps[3]? = some (.pointer (some ⟨g3, 0, none⟩)) := by rw [ha]; exact (putSel_off rfl).trans rfl
   replace ha := aM_ ha
   have HB := aM_ QHB
   have T0 := aM_ (QT0 (hoff 9 rfl))
   have ZB := aM_ QZB
   refine value_ (w1 := w') (v := .pointer (some ⟨g3, 1, none⟩)) (by rfl) rfl ?_ ?_
   ·go_simp
    (try simp only [i64_w])
    try rfl
   refine hK.out _ _ ⟨(by rw [ha.out]; exact putSel_upk 5 hb_ rfl rfl rfl), QHB, QG0, QG1, dD_ (hoff 7 rfl), QT0, dD_ (hoff 9 rfl), dD_ (hoff 11 rfl), QZB⟩
  refine steps_cons ?_ ?_
  ·rintro b a w' ⟨ha, QHB, QG0, QG1, QG2, QT0, QT1, QT2, QZB⟩ hb_ hon hoff
   refine ⟨_, rfl, fun K hK => ?_⟩
   have e10 : a.tmps[10]? = some (.pointer (some ⟨g3, 1, none⟩)) := by rw [ha]; exact putSel_on (e := (5, 10, .pointer (some ⟨g3, 1, none⟩))) 5 rfl rfl (hon 5 rfl) rfl
   replace ha := aM_ ha
   have HB := aM_ QHB
   have T0 := aM_ (QT0 (hoff 9 rfl))
   have ZB := aM_ QZB
   have z0 : w'.cell? ⟨g3, 1, none⟩ = some (.int .i64 x1) := T0.out.cell 1
   refine value_ (w1 := w') (v := .int .i64 x1) (by rfl) rfl ?_ ?_
   ·go_simp
    (try simp only [i64_w])
    try rfl
   refine hK.out _ _ ⟨(by rw [ha.out]; exact putSel_upk 6 hb_ rfl rfl rfl), QHB, QG0, QG1, dD_ (hoff 7 rfl), QT0, dD_ (hoff 9 rfl), dD_ (hoff 11 rfl), QZB⟩
  refine steps_cons ?_ ?_
  ·rintro b a w' ⟨ha, QHB, QG0, QG1, QG2, QT0, QT1, QT2, QZB⟩ hb_ hon hoff
   refine ⟨_, rfl, fun K hK => ?_⟩
   have e9 : a.tmps[9]? = some (.pointer (some ⟨gs, 0, none⟩)) := by rw [ha]; exact putSel_on (e := (4, 9, .pointer (some ⟨gs, 0, none⟩))) 4 rfl rfl (hon 4 rfl) rfl
   have e11 : a.tmps[11]? = some (.int .i64 x1) := by rw [ha]; exact putSel_on (e := (6, 11, .int .i64 x1)) 6 rfl rfl (hon 6 rfl) rfl
   replace ha := aM_ ha
   have HB := aM_ QHB
   have G1 := aM_ (QG1 (hon 3 rfl) hb_)
   have T0 := aM_ (QT0 (hoff 9 rfl))
   have ZB := aM_ QZB
   refine call_ 56 #[.pointer (some ⟨gs, 0, none⟩), .int .i64 x1] (by rfl) rfl ?_ ?_
   ·go_simp
   refine (number_any x1 size (wg || !k1) gs w' G1.out).mono ?_
   rintro e w2' ⟨rfl, hs, hbk⟩
   rw [M2.out]
   rw [K2.out] at hbk
   refine ⟨_, rfl, ?_⟩
   refine hK.out _ _ ⟨(by rw [ha.out]; exact putSel_upk 7 hb_ rfl rfl rfl), HB.out.trans (hs.mono HB.out.size), fun h0_ => absurd ((hon 3 rfl).symm.trans h0_) (by decide), fun _ => dE_ (up_self b 7), fun _ => hbk, fun _ => hs.blk T0.out T0.out.lt (Ne.symm NE3.out), dD_ (hoff 9 rfl), dD_ (hoff 11 rfl), hs.blk ZB.out ZB.out.lt (Ne.symm NE4.out)⟩
  refine steps_cons ?_ ?_
  ·rintro b a w' ⟨ha, QHB, QG0, QG1, QG2, QT0, QT1, QT2, QZB⟩ hb_ hon hoff
   refine ⟨_, rfl, fun K hK => ?_⟩
   have e3 : a.tmps[3]? = some (.pointer (some ⟨g3, 0, none⟩)) := by rw [ha]; exact (putSel_off rfl).trans rfl
   replace ha := aM_ ha
   have HB := aM_ QHB
   have T0 := aM_ (QT0 (hoff 9 rfl))
   have ZB := aM_ QZB
   refine value_ (w1 := w') (v := .pointer (some ⟨g3, 0, none⟩)) (by rfl) rfl ?_ ?_
   ·go_simp
    (try simp only [i64_w])
    try rfl
   refine hK.out _ _ ⟨(by rw [ha.out]; exact putSel_upk 8 hb_ rfl rfl rfl), QHB, fun h0_ => absurd ((hon 3 rfl).symm.trans h0_) (by decide), QG1, QG2, QT0, dD_ (hoff 9 rfl), dD_ (hoff 11 rfl), QZB⟩
  refine steps_cons ?_ ?_
  ·rintro b a w' ⟨ha, QHB, QG0, QG1, QG2, QT0, QT1, QT2, QZB⟩ hb_ hon hoff
   refine ⟨_, rfl, fun K hK => ?_⟩
   have e13 : a.tmps[13]? = some (.pointer (some ⟨g3, 0, none⟩)) := by rw [ha]; exact putSel_on (e := (8, 13, .pointer (some ⟨g3, 0, none⟩))) 8 rfl rfl (hon 8 rfl) rfl
   have e8 : a.tmps[8]? = some (.int .i64 m1) := by rw [ha]; exact putSel_on (e := (3, 8, .int .i64 m1)) 3 rfl rfl (hon 3 rfl) rfl
   replace ha := aM_ ha
   have HB := aM_ QHB
   have G2 := aM_ (QG2 (hon 7 rfl))
   have T0 := aM_ (QT0 hb_)
   have ZB := aM_ QZB
   have c0 : w'.cell? ⟨g3, 0, none⟩ = some (.int .i64 x0) := T0.out.cell 0
   have f0 : w'.frozen? ⟨g3, 0, none⟩ = false := T0.out.frozen 0
   refine skip_ (w1 := w'.setCell ⟨g3, 0, none⟩ (.int .i64 m1)) (by rfl) rfl ?_ ?_
   ·go_simp
   refine hK.out _ _ ⟨(by rw [ha.out]; exact putSel_none (v := undef) rfl), HB.out.trans (Sc.setN w' GE3.out GG3.out 0 _), fun h0_ => absurd ((hon 3 rfl).symm.trans h0_) (by decide), fun _ => dE_ (hon 7 rfl), fun _ => G2.out.far NE3.out 0 _, dE_ (up_self b 9), fun _ _ => T0.out.put 0 _ rfl, dD_ (hoff 11 rfl), ZB.out.far (Ne.symm NE34.out) 0 _⟩
  refine steps_cons ?_ ?_
  ·rintro b a w' ⟨ha, QHB, QG0, QG1, QG2, QT0, QT1, QT2, QZB⟩ hb_ hon hoff
   refine ⟨_, rfl, fun K hK => ?_⟩
   have e3 : a.tmps[3]? = some (.pointer (some ⟨g3, 0, none⟩)) := by rw [ha]; exact (putSel_off rfl).trans rfl
   replace ha := aM_ ha
   have HB := aM_ QHB
   have G2 := aM_ (QG2 (hon 7 rfl))
   have T1 := aM_ (QT1 (hon 9 rfl) (hoff 11 rfl))
   have ZB := aM_ QZB
   refine value_ (w1 := w') (v := .pointer (some ⟨g3, 1, none⟩)) (by rfl) rfl ?_ ?_
   ·go_simp
    (try simp only [i64_w])
    try rfl
   refine hK.out _ _ ⟨(by rw [ha.out]; exact putSel_upk 9 hb_ rfl rfl rfl), QHB, fun h0_ => absurd ((hon 3 rfl).symm.trans h0_) (by decide), fun _ => dE_ (hon 7 rfl), QG2, fun h0_ => absurd ((hon 9 rfl).symm.trans h0_) (by decide), QT1, dD_ (hoff 11 rfl), QZB⟩
  refine steps_cons ?_ ?_
  ·rintro b a w' ⟨ha, QHB, QG0, QG1, QG2, QT0, QT1, QT2, QZB⟩ hb_ hon hoff
   refine ⟨_, rfl, fun K hK => ?_⟩
   have e14 : a.tmps[14]? = some (.pointer (some ⟨g3, 1, none⟩)) := by rw [ha]; exact putSel_on (e := (10, 14, .pointer (some ⟨g3, 1, none⟩))) 9 rfl rfl (hon 10 rfl) rfl
   have e12 : a.tmps[12]? = some (.int .i64 m2) := by rw [ha]; exact putSel_on (e := (7, 12, .int .i64 m2)) 7 rfl rfl (hon 7 rfl) rfl
   replace ha := aM_ ha
   have HB := aM_ QHB
   have G2 := aM_ (QG2 (hon 7 rfl))
   have T1 := aM_ (QT1 (hon 9 rfl) hb_)
   have ZB := aM_ QZB
   have c0 : w'.cell? ⟨g3, 1, none⟩ = some (.int .i64 x1) := T1.out.cell 1
   have f0 : w'.frozen? ⟨g3, 1, none⟩ = false := T1.out.frozen 1
   refine skip_ (w1 := w'.setCell ⟨g3, 1, none⟩ (.int .i64 m2)) (by rfl) rfl ?_ ?_
   ·go_simp
   refine hK.out _ _ ⟨(by rw [ha.out]; exact putSel_none (v := undef) rfl), HB.out.trans (Sc.setN w' GE3.out GG3.out 1 _), fun h0_ => absurd ((hon 3 rfl).symm.trans h0_) (by decide), fun _ => dE_ (hon 7 rfl), fun _ => G2.out.far NE3.out 1 _, fun h0_ => absurd ((hon 9 rfl).symm.trans h0_) (by decide), fun _ => dE_ (up_self b 11), fun _ => T1.out.put 1 _ rfl, ZB.out.far (Ne.symm NE34.out) 1 _⟩
  exact steps_nil
 ·rintro b a w' hall ⟨ha, QHB, QG0, QG1, QG2, QT0, QT1, QT2, QZB⟩
  clear G0 HB T0 ZB
  have hb0_ := hall 0 (by kernel_rfl)
  have hb1_ := hall 1 (by kernel_rfl)
  have hb2_ := hall 2 (by kernel_rfl)
  have hb3_ := hall 3 (by kernel_rfl)
  have hb4_ := hall 4 (by kernel_rfl)
  have hb5_ := hall 5 (by kernel_rfl)
  have hb6_ := hall 6 (by kernel_rfl)
  have hb7_ := hall 7 (by kernel_rfl)
  have hb8_ := hall 8 (by kernel_rfl)
  have hb9_ := hall 9 (by kernel_rfl)
  have hb10_ := hall 10 (by kernel_rfl)
  have hb11_ := hall 11 (by kernel_rfl)
  subst ha
  simp only [putSel, hb0_, hb1_, hb2_, hb3_, hb4_, hb5_, hb6_, hb7_, hb8_, hb9_, hb10_, hb11_, if_true, Act.put, List.setIfInBounds_toArray, List.set_cons_zero, List.set_cons_succ]
  have HB := aM_ QHB
  clear QHB
  clear QG0
  clear QG1
  have G2 := aM_ (QG2 hb7_)
  clear QG2
  clear QT0
  clear QT1
  have T2 := aM_ (QT2 hb11_)
  clear QT2
  have ZB := aM_ QZB
  clear QZB
  clear hall hb0_ hb1_ hb2_ hb3_ hb4_ hb5_ hb6_ hb7_ hb8_ hb9_ hb10_ hb11_
  have t0 := T2.out.cell 0
  have t1 := T2.out.cell 1
  have t2 := T2.out.cell 2
  have z0 := ZB.out.cell 0
  have z1 := ZB.out.cell 1
  have z2 := ZB.out.cell 2
  have y0 := ZB.out.frozen 0
  have y1 := ZB.out.frozen 1
  have y2 := ZB.out.frozen 2
  simp only [gA_, gZ_, gS_] at t0 z0 t1 z1 t2 z2
  go_wp2_with fail
  refine bodyPost_ret (res_c (g := g4) rfl _ _ _ _ _ rfl (((ZB.out.put 0 _ rfl).put 1 _ rfl).put 2 _ rfl) rfl Try.underlying73 (by kernel_rfl)) rfl ⟨rfl, (((HB.out.trans (Sc.setN _ GE4.out GG4.out 0 _)).trans (Sc.setN _ GE4.out GG4.out 1 _)).trans (Sc.setN _ GE4.out GG4.out 2 _)), (((G2.out.far NE4.out 0 _).far NE4.out 1 _).far NE4.out 2 _)⟩
/- outline's mapped, of anchors and points, with a scaler. -/
def mapAF (size : Int) (a : I3) : I3 := ⟨a.a, mulQ a.b size, mulQ a.c size⟩
def mapAW (size : Int) (a : I3) : Bool := !mulOk a.b size || !mulOk a.c size
theorem mapA_any (l : List I3) (A : Option Addr) (c : Nat) (size : Int) (wg : Bool) (gs : Nat) (w0 w : World) (hl : l.length ≤ 1000000) (hw0 : w0.heap.size ≤ gs) (hB0 : Below w0.heap.size w0 w) (hC : Kd.C kI3 w0 A l.length l) (hB : Blk w gs #[.int .i64 size, .bool wg] 116) :
  Calls Try.prog 54 #[.slice A l.length c, .func (.func 55) #[.pointer (some ⟨gs, 0, none⟩)] #[]] w fun e w' => ∃ V, e = .returned V ∧ Kd.R kI3 25 w' w.heap.size (fun _ => True) V (l.map (mapAF size)) ∧ Sc w.heap.size gs w w' ∧ Blk w' gs #[.int .i64 size, .bool (wg || l.any (mapAW size))] 116 := by
 have HC := lH_ hC
 have HB0 := lH_ hB0
 have HW0 := lH_ hw0
 have HB_ := lH_ hB
 have GL := lH_ hB.lt
 have hm : l.length ≤ 9223372036854775807 := by omega
 clear hC hB0 hw0 hB
 go_enter Try.func54, Try.ntmps54
 go_wp2_with fail
 go_loopw [5, 10] (fun s i wr => ∃ (k : Nat) (ps : List I3) (Av : Option Addr) (cv : Nat), i = .int .i64 k ∧ k ≤ l.length ∧ s = .slice Av ps.length cv ∧ ps.length ≤ 1000000 ∧ Hid (ps = (l.take k).map (mapAF size)) ∧ Hid (Kd.R kI3 25 wr w.heap.size (fun _ => True) (.slice Av ps.length cv) ps) ∧ Hid (Sc w.heap.size gs w wr) ∧ Hid (Blk wr gs #[.int .i64 size, .bool (wg || (l.take k).any (mapAW size))] 116)) (fun _ i _ => l.length - (intOf i).toNat)
 case atStart => exact ⟨0, [], none, 0, rfl, Nat.zero_le _, rfl, Nat.zero_le _, lH_ rfl, lH_ (Kd.R_nil _ _ _ _ _), lH_ (Sc.refl _ _ _), lH_ (by simpa using HB_.out)⟩
 case round =>
  obtain ⟨k, ps, Av, cv, rfl, hk, rfl, hpl, HPS, HV, HSr, HBk⟩ := hrel
  by_cases hlt : k < l.length
  ·have d1 : decide (k < l.length) = true := decide_eq_true hlt
   obtain ⟨ad, c0, c1, c2', rfl, hK, p0, p1, p2⟩ := el3 (d := kI3) rfl (Kd.C_below HC.out (HB0.out.trans (HSr.out.below.mono HW0.out))) zI3 k hlt
   have hk2 := kI3_open hK
   simp only [List.cons.injEq, and_true] at hk2
   obtain ⟨rfl, rfl, rfl⟩ := hk2
   have HTK := lH_ (show (l.take (k + 1)).map (mapAF size) = ps ++ [mapAF size (l.getD k zI3)] by rw [take_at l k hlt zI3, List.map_append, HPS.out]; rfl)
   have HTA := lH_ (show (wg || (l.take (k + 1)).any (mapAW size)) = ((wg || (l.take k).any (mapAW size)) || mapAW size (l.getD k zI3)) by rw [take_at l k hlt zI3, List.any_append]; simp [Bool.or_assoc])
   have HPL := lH_ (show ps.length = k by rw [HPS.out, List.length_map, List.length_take]; omega)
   generalize (wg || (l.take k).any (mapAW size)) = wk at *
   generalize l.getD k zI3 = a at *
   obtain ⟨x0, x1, x2⟩ := a
   dsimp only at p0 p1 p2
   have b0 : (0 : Int) ≤ (k : Int) := by omega
   have b1 : (k : Int) < (l.length : Int) := by omega
   clear hK HPS
   go_upto_region 5 with fail
   obtain ⟨w2, g7, hw, hg, T, HT, _⟩ := new_box wr #[.int .i64 x0, .int .i64 x1, .int .i64 x2] 25
   rw [hw, hg]
   clear hw hg p0 p1 p2
   have HS2 := lH_ (HSr.out.step HSr.out.size (Nat.le_trans (Nat.le_of_lt GL.out) HSr.out.size) HT.out)
   have HV2 := lH_ (Kd.R_below HV.out HT.out)
   have HK2 := lH_ (HBk.out.below HT.out)
   have t0 := T.out.cell 0
   have t1 := T.out.cell 1
   have t2 := T.out.cell 2
   simp only [gA_, gZ_, gS_] at t0 t1 t2
   go_wp2_with fail
   refine (oAch_any x0 x1 x2 size wk gs w2 HK2.out).mono ?_
   rintro e w3 ⟨rfl, hs, hbk⟩
   have HS3 := lH_ (HS2.out.trans (hs.mono HS2.out.size))
   have HV3 := lH_ (Sc.R HV2.out HK2.out (by decide) hs)
   have HK3 := lH_ hbk
   have HZ3 := lH_ HS3.out.size
   clear hs hbk t0 t1 t2 T HT HV2 HV HSr HS2 HK2 HBk
   go_wp2_with (at_builtin; go_loud (refine Kd.R_append kI3 (W := w3) (w0 := w3) w.heap.size rfl (.tmp 14) (.tmp 18) 23 25 _ 24 rfl (by kernel_rfl) infoAn rfl (by decide) (by omega) (.slice Av ps.length cv) ps ⟨x0, mulQ x1 size, mulQ x2 size⟩ [.int .i64 x0, .int .i64 (mulQ x1 size), .int .i64 (mulQ x2 size)] (fun _ => True) (fun _ => False) rfl rfl (kI3_mkM _ _ _ ⟨x0, mulQ x1 size, mulQ x2 size⟩) (fun _ h => h.elim) (fun _ _ => trivial) HV3.out (Below.refl _ _) HZ3.out (by omega) ?_); intro v4 w4 hR4 hB4 hG4 hat4; obtain ⟨A4, c4, rfl⟩ := Kd.R_slice hR4; have HR4 := lH_ hR4; have HB4 := lH_ hB4; clear hR4 hB4 hG4 hat4)
   have HS4 := HS3.out.trans (Sc.of HB4.out (Nat.le_refl _) (Nat.le_of_lt GL.out))
   have HK4 := (HB4.out.block gs GL.out).trans HK3.out
   exact ⟨⟨k + 1, ps ++ [⟨x0, mulQ x1 size, mulQ x2 size⟩], A4, c4, by go_num, by omega, by simp, by rw [List.length_append, HPL.out]; simp; omega, lH_ HTK.out.symm, HR4, lH_ HS4, lH_ (by rw [HTA.out]; show Blk w4 gs #[.int .i64 size, .bool (wk || (!mulOk x1 size || !mulOk x2 size))] _; rw [← Bool.or_assoc]; exact HK4)⟩, by simp [intOf]; omega⟩
  ·have d1 : decide (k < l.length) = false := decide_eq_false hlt
   have HT1 : Hid (ps = l.map (mapAF size)) := lH_ (by rw [HPS.out, List.take_of_length_le (by omega)])
   have HT2 : Hid (l.take k = l) := lH_ (List.take_of_length_le (by omega))
   clear hlt
   go_wp2_with fail
   go_ret
   exact ⟨_, rfl, by rw [← HT1.out]; exact HV.out, HSr.out, by have := HBk.out; rw [HT2.out] at this; exact this⟩
def mapPF (size : Int) (a : Pt) : Pt := ⟨mulQ a.a size, mulQ a.b size, a.c⟩
def mapPW (size : Int) (a : Pt) : Bool := !mulOk a.a size || !mulOk a.b size
theorem mapP_any (l : List Pt) (A : Option Addr) (c : Nat) (size : Int) (wg : Bool) (gs : Nat) (w0 w : World) (hl : l.length ≤ 1000000) (hw0 : w0.heap.size ≤ gs) (hB0 : Below w0.heap.size w0 w) (hC : Kd.C kPt w0 A l.length l) (hB : Blk w gs #[.int .i64 size, .bool wg] 116) :
  Calls Try.prog 59 #[.slice A l.length c, .func (.func 60) #[.pointer (some ⟨gs, 0, none⟩)] #[]] w fun e w' => ∃ V, e = .returned V ∧ Kd.R kPt 73 w' w.heap.size (fun _ => True) V (l.map (mapPF size)) ∧ Sc w.heap.size gs w w' ∧ Blk w' gs #[.int .i64 size, .bool (wg || l.any (mapPW size))] 116 := by
 have HC := lH_ hC
 have HB0 := lH_ hB0
 have HW0 := lH_ hw0
 have HB_ := lH_ hB
 have GL := lH_ hB.lt
 have hm : l.length ≤ 9223372036854775807 := by omega
 clear hC hB0 hw0 hB
 go_enter Try.func59, Try.ntmps59
 go_wp2_with fail
 go_loopw [5, 10] (fun s i wr => ∃ (k : Nat) (ps : List Pt) (Av : Option Addr) (cv : Nat), i = .int .i64 k ∧ k ≤ l.length ∧ s = .slice Av ps.length cv ∧ ps.length ≤ 1000000 ∧ Hid (ps = (l.take k).map (mapPF size)) ∧ Hid (Kd.R kPt 73 wr w.heap.size (fun _ => True) (.slice Av ps.length cv) ps) ∧ Hid (Sc w.heap.size gs w wr) ∧ Hid (Blk wr gs #[.int .i64 size, .bool (wg || (l.take k).any (mapPW size))] 116)) (fun _ i _ => l.length - (intOf i).toNat)
 case atStart => exact ⟨0, [], none, 0, rfl, Nat.zero_le _, rfl, Nat.zero_le _, lH_ rfl, lH_ (Kd.R_nil _ _ _ _ _), lH_ (Sc.refl _ _ _), lH_ (by simpa using HB_.out)⟩
 case round =>
  obtain ⟨k, ps, Av, cv, rfl, hk, rfl, hpl, HPS, HV, HSr, HBk⟩ := hrel
  by_cases hlt : k < l.length
  ·have d1 : decide (k < l.length) = true := decide_eq_true hlt
   obtain ⟨ad, c0, c1, c2', rfl, hK, p0, p1, p2⟩ := el3 (d := kPt) rfl (Kd.C_below HC.out (HB0.out.trans (HSr.out.below.mono HW0.out))) zPt k hlt
   have hk2 := kPt_open hK
   simp only [List.cons.injEq, and_true] at hk2
   obtain ⟨rfl, rfl, rfl⟩ := hk2
   have HTK := lH_ (show (l.take (k + 1)).map (mapPF size) = ps ++ [mapPF size (l.getD k zPt)] by rw [take_at l k hlt zPt, List.map_append, HPS.out]; rfl)
   have HTA := lH_ (show (wg || (l.take (k + 1)).any (mapPW size)) = ((wg || (l.take k).any (mapPW size)) || mapPW size (l.getD k zPt)) by rw [take_at l k hlt zPt, List.any_append]; simp [Bool.or_assoc])
   have HPL := lH_ (show ps.length = k by rw [HPS.out, List.length_map, List.length_take]; omega)
   generalize (wg || (l.take k).any (mapPW size)) = wk at *
   generalize l.getD k zPt = a at *
   obtain ⟨x0, x1, x2⟩ := a
   dsimp only at p0 p1 p2
   have b0 : (0 : Int) ≤ (k : Int) := by omega
   have b1 : (k : Int) < (l.length : Int) := by omega
   clear hK HPS
   go_upto_region 5 with fail
   obtain ⟨w2, g7, hw, hg, T, HT, _⟩ := new_box wr #[.int .i64 x0, .int .i64 x1, .bool x2] 73
   rw [hw, hg]
   clear hw hg p0 p1 p2
   have HS2 := lH_ (HSr.out.step HSr.out.size (Nat.le_trans (Nat.le_of_lt GL.out) HSr.out.size) HT.out)
   have HV2 := lH_ (Kd.R_below HV.out HT.out)
   have HK2 := lH_ (HBk.out.below HT.out)
   have t0 := T.out.cell 0
   have t1 := T.out.cell 1
   have t2 := T.out.cell 2
   simp only [gA_, gZ_, gS_] at t0 t1 t2
   go_wp2_with fail
   refine (oPt_any x0 x1 x2 size wk gs w2 HK2.out).mono ?_
   rintro e w3 ⟨rfl, hs, hbk⟩
   have HS3 := lH_ (HS2.out.trans (hs.mono HS2.out.size))
   have HV3 := lH_ (Sc.R HV2.out HK2.out (by decide) hs)
   have HK3 := lH_ hbk
   have HZ3 := lH_ HS3.out.size
   clear hs hbk t0 t1 t2 T HT HV2 HV HSr HS2 HK2 HBk
   go_wp2_with (at_builtin; go_loud (refine Kd.R_append kPt (W := w3) (w0 := w3) w.heap.size rfl (.tmp 14) (.tmp 18) 71 73 _ 24 rfl (by kernel_rfl) infoPt rfl (by decide) (by omega) (.slice Av ps.length cv) ps ⟨mulQ x0 size, mulQ x1 size, x2⟩ [.int .i64 (mulQ x0 size), .int .i64 (mulQ x1 size), .bool x2] (fun _ => True) (fun _ => False) rfl rfl (kPt_mkM _ _ _ ⟨mulQ x0 size, mulQ x1 size, x2⟩) (fun _ h => h.elim) (fun _ _ => trivial) HV3.out (Below.refl _ _) HZ3.out (by omega) ?_); intro v4 w4 hR4 hB4 hG4 hat4; obtain ⟨A4, c4, rfl⟩ := Kd.R_slice hR4; have HR4 := lH_ hR4; have HB4 := lH_ hB4; clear hR4 hB4 hG4 hat4)
   have HS4 := HS3.out.trans (Sc.of HB4.out (Nat.le_refl _) (Nat.le_of_lt GL.out))
   have HK4 := (HB4.out.block gs GL.out).trans HK3.out
   exact ⟨⟨k + 1, ps ++ [⟨mulQ x0 size, mulQ x1 size, x2⟩], A4, c4, by go_num, by omega, by simp, by rw [List.length_append, HPL.out]; simp; omega, lH_ HTK.out.symm, HR4, lH_ HS4, lH_ (by rw [HTA.out]; show Blk w4 gs #[.int .i64 size, .bool (wk || (!mulOk x0 size || !mulOk x1 size))] _; rw [← Bool.or_assoc]; exact HK4)⟩, by simp [intOf]; omega⟩
  ·have d1 : decide (k < l.length) = false := decide_eq_false hlt
   have HT1 : Hid (ps = l.map (mapPF size)) := lH_ (by rw [HPS.out, List.take_of_length_le (by omega)])
   have HT2 : Hid (l.take k = l) := lH_ (List.take_of_length_le (by omega))
   clear hlt
   go_wp2_with fail
   go_ret
   exact ⟨_, rfl, by rw [← HT1.out]; exact HV.out, HSr.out, by have := HBk.out; rw [HT2.out] at this; exact this⟩
/- outline's Scale$1. -/
theorem scale1_any (l : List Pt) (A : Option Addr) (c : Nat) (size : Int) (wg : Bool) (gs g5 : Nat) (w0 w : World) (hl : l.length ≤ 1000000) (hw0 : w0.heap.size ≤ gs) (hB0 : Below w0.heap.size w0 w) (hC : Kd.C kPt w0 A l.length l) (hB : Blk w gs #[.int .i64 size, .bool wg] 116) (h5 : w.cell? ⟨g5, 0, none⟩ = some (.pointer (some ⟨gs, 0, none⟩))) :
  Calls Try.prog 58 #[.slice A l.length c, .pointer (some ⟨g5, 0, none⟩)] w fun e w' => ∃ V, e = .returned V ∧ Kd.R kPt 73 w' w.heap.size (fun _ => True) V (l.map (mapPF size)) ∧ Sc w.heap.size gs w w' ∧ Blk w' gs #[.int .i64 size, .bool (wg || l.any (mapPW size))] 116 := by
 have HM := lH_ (mapP_any l A c size wg gs w0 w hl hw0 hB0 hC hB)
 clear hl hw0 hB0 hC hB
 go_enter Try.func58, Try.ntmps58
 go_wp2_with fail
 refine HM.out.mono ?_
 rintro e w1 ⟨V, rfl, hR, hs, hb⟩
 have HR := lH_ hR
 have HS := lH_ hs
 have HB := lH_ hb
 clear hR hs hb
 go_wp2_with fail
 go_ret
 exact ⟨V, rfl, HR.out, HS.out, HB.out⟩
/- outline's mapped, of contours, with a scaler. -/
def mapCF (size : Int) (ct : List Pt) : List Pt := ct.map (mapPF size)
def mapCW (size : Int) (ct : List Pt) : Bool := ct.any (mapPW size)
theorem mapC_any (l : List (List Pt)) (A : Option Addr) (c : Nat) (size : Int) (wg : Bool) (gs g5 : Nat) (w0 w : World) (hl : l.length ≤ 1000000) (hcl : ∀ ct ∈ l, ct.length ≤ 1000000) (hw0 : w0.heap.size ≤ gs) (hB0 : Below w0.heap.size w0 w) (hC : Kd.C kCt w0 A l.length l) (hB : Blk w gs #[.int .i64 size, .bool wg] 116) (h5 : Blk w g5 #[.pointer (some ⟨gs, 0, none⟩)] 114) (hne : g5 ≠ gs) :
  Calls Try.prog 57 #[.slice A l.length c, .func (.func 58) #[] #[.pointer (some ⟨g5, 0, none⟩)]] w fun e w' => ∃ V, e = .returned V ∧ Kd.R kCt 71 w' w.heap.size (fun _ => True) V (l.map (mapCF size)) ∧ Sc w.heap.size gs w w' ∧ Blk w' gs #[.int .i64 size, .bool (wg || l.any (mapCW size))] 116 := by
 have HC := lH_ hC
 have HB0 := lH_ hB0
 have HW0 := lH_ hw0
 have HB_ := lH_ hB
 have GL := lH_ hB.lt
 have H5 := lH_ h5
 have NE5 := lH_ hne
 have HCL := lH_ hcl
 have hm : l.length ≤ 9223372036854775807 := by omega
 clear hC hB0 hw0 hB h5 hne hcl
 go_enter Try.func57, Try.ntmps57
 go_wp2_with fail
 go_loopw [5, 10] (fun s i wr => ∃ (k : Nat) (ps : List (List Pt)) (Av : Option Addr) (cv : Nat), i = .int .i64 k ∧ k ≤ l.length ∧ s = .slice Av ps.length cv ∧ ps.length ≤ 1000000 ∧ Hid (ps = (l.take k).map (mapCF size)) ∧ Hid (Kd.R kCt 71 wr w.heap.size (fun _ => True) (.slice Av ps.length cv) ps) ∧ Hid (Sc w.heap.size gs w wr) ∧ Hid (Blk wr gs #[.int .i64 size, .bool (wg || (l.take k).any (mapCW size))] 116)) (fun _ i _ => l.length - (intOf i).toNat)
 case atStart => exact ⟨0, [], none, 0, rfl, Nat.zero_le _, rfl, Nat.zero_le _, lH_ rfl, lH_ (Kd.R_nil _ _ _ _ _), lH_ (Sc.refl _ _ _), lH_ (by simpa using HB_.out)⟩
 case round =>
  obtain ⟨k, ps, Av, cv, rfl, hk, rfl, hpl, HPS, HV, HSr, HBk⟩ := hrel
  by_cases hlt : k < l.length
  ·have d1 : decide (k < l.length) = true := decide_eq_true hlt
   have HBW := lH_ (HB0.out.trans (HSr.out.below.mono HW0.out))
   obtain ⟨ad, c0, rfl, hK, p0⟩ := el1 (d := kCt) rfl HC.out [] k hlt
   obtain ⟨Ai, ci, hcs, hci, hM⟩ := kSl_open hK
   simp only [List.cons.injEq, and_true] at hcs
   subst hcs
   replace p0 := pw_cell_below HBW.out p0
   have HTK := lH_ (show (l.take (k + 1)).map (mapCF size) = ps ++ [mapCF size (l.getD k [])] by rw [take_at l k hlt [], List.map_append, HPS.out]; rfl)
   have HTA := lH_ (show (wg || (l.take (k + 1)).any (mapCW size)) = ((wg || (l.take k).any (mapCW size)) || mapCW size (l.getD k [])) by rw [take_at l k hlt [], List.any_append]; simp [Bool.or_assoc])
   have HPL := lH_ (show ps.length = k by rw [HPS.out, List.length_map, List.length_take]; omega)
   have HCT := lH_ (HCL.out _ (getD_at hlt []))
   generalize (wg || (l.take k).any (mapCW size)) = wk at *
   generalize l.getD k [] = ct at *
   have HMI := lH_ (scale1_any ct Ai ci size wk gs g5 w0 wr HCT.out HW0.out HBW.out hM HBk.out ((HSr.out.blk H5.out H5.out.lt NE5.out).cell 0))
   have b0 : (0 : Int) ≤ (k : Int) := by omega
   have b1 : (k : Int) < (l.length : Int) := by omega
   clear hK HPS hM
   go_wp2_with fail
   refine HMI.out.mono ?_
   rintro e w3 ⟨V, rfl, hR, hs, hbk⟩
   obtain ⟨A1, c1, rfl⟩ := Kd.R_slice hR
   rw [List.length_map] at hR ⊢
   have HS3 := lH_ (HSr.out.trans (hs.mono HSr.out.size))
   have HV3 := lH_ (Sc.R HV.out HBk.out (by decide) hs)
   have HK3 := lH_ hbk
   have HZ3 := lH_ HS3.out.size
   have HP3 : Hid (kCt.M w3 w.heap.size (fun k => True ∧ wr.heap.size ≤ k ∧ k < w3.heap.size ∧ ∃ q, q ∈ 73 :: kPt.E ∧ ∃ cells, w3.heap[k]? = some (.cells cells q (0, 0))) (mapCF size ct) [.slice A1 ct.length c1]) := lH_ ⟨_, rfl, Kd.R_lower (Kd.R_bound hR) HSr.out.size⟩
   have HOK := lH_ (fun j (h : True ∧ wr.heap.size ≤ j ∧ j < w3.heap.size ∧ ∃ q, q ∈ 73 :: kPt.E ∧ ∃ cells, w3.heap[j]? = some (.cells cells q (0, 0))) => (⟨trivial, fun e => by have h1 := (Kd.R_bound HV.out).1 j e.symm; have := h.2.1; have := h1.2.2.1; omega⟩ : True ∧ some j ≠ (Value.slice Av ps.length cv).ownBlock))
   clear hs hbk p0 HV HSr HBk hR
   go_wp2_with (at_builtin; go_loud (refine Kd.R_append kCt (W := w3) (w0 := w3) w.heap.size rfl (.tmp 14) (.tmp 18) 22 71 _ 24 rfl (by kernel_rfl) infoCt rfl (by decide) (by omega) (.slice Av ps.length cv) ps (mapCF size ct) [.slice A1 ct.length c1] (fun _ => True) _ rfl rfl HP3.out HOK.out (fun _ _ => trivial) HV3.out (Below.refl _ _) HZ3.out (by omega) ?_); intro v4 w4 hR4 hB4 hG4 hat4; obtain ⟨A4, c4, rfl⟩ := Kd.R_slice hR4; have HR4 := lH_ hR4; have HB4 := lH_ hB4; clear hR4 hB4 hG4 hat4)
   have HS4 := HS3.out.trans (Sc.of HB4.out (Nat.le_refl _) (Nat.le_of_lt GL.out))
   have HK4 := (HB4.out.block gs GL.out).trans HK3.out
   exact ⟨⟨k + 1, ps ++ [mapCF size ct], A4, c4, by go_num, by omega, by simp, by rw [List.length_append, HPL.out]; simp; omega, lH_ HTK.out.symm, HR4, lH_ HS4, lH_ (by rw [HTA.out]; exact HK4)⟩, by simp [intOf]; omega⟩
  ·have d1 : decide (k < l.length) = false := decide_eq_false hlt
   have HT1 : Hid (ps = l.map (mapCF size)) := lH_ (by rw [HPS.out, List.take_of_length_le (by omega)])
   have HT2 : Hid (l.take k = l) := lH_ (List.take_of_length_le (by omega))
   clear hlt
   go_wp2_with fail
   go_ret
   exact ⟨_, rfl, by rw [← HT1.out]; exact HV.out, HSr.out, by have := HBk.out; rw [HT2.out] at this; exact this⟩
/- outline's Scale. -/
def oScale.T2 : Bool × List (List Nat × List Nat) := (true, [([], []), ([0], [0]), ([], []), ([2], [2]), ([1, 3], [1, 3]), ([], []), ([], []), ([6], [6]), ([5, 7, 4], [5, 7]), ([], []), ([], []), ([10], [10]), ([9, 11, 8], [9, 11]), ([4, 8, 12], [4, 8, 12]), ([], []), ([14, 13, 12, 0, 1, 2, 3, 4, 5, 6, 7, 8, 9, 10, 11, 12, 13, 14], [13, 14])])
def oScale.B2 : List Nat := [0, 1, 0, 4, 15, 0, 0, 64, 255, 0, 0, 1024, 4095, 8191, 0, 32767]
theorem oScale.tab2 : rtab .any (opsOf Try.f19 2) = oScale.T2 := by kernel_rfl
theorem oScale.bits2 : waitsOk oScale.T2.2 oScale.B2 = true := by kernel_rfl
def swB (size : Int) : Bool := decide (size < 4) || decide (32 < size)
def scW (size : Int) (an : List I3) (xb xc av : Int) (ct : List (List Pt)) : Bool := ((((swB size || an.any (mapAW size)) || !mulOk xb size) || !mulOk xc size) || !mulOk av size) || ct.any (mapCW size)
theorem R_put6 {α : Type} {d : Kd α} {e : TypeId} {w : World} {base : Nat} {ok : Nat → Prop} {v : Value} {xs : List α} {g : Nat} {t : TypeId} {c0 c1 c2 c3 c4 c5 : Value} (h : Kd.R d e w base ok v xs) (xb : Blk w g #[c0, c1, c2, c3, c4, c5] t) (ht : ∀ q, q ∈ e :: d.E → q ≠ t) (v0 v1 v2 v3 v4 v5 : Value) :
  Kd.R d e ((((((w.setCell ⟨g, 0, none⟩ v0).setCell ⟨g, 1, none⟩ v1).setCell ⟨g, 2, none⟩ v2).setCell ⟨g, 3, none⟩ v3).setCell ⟨g, 4, none⟩ v4).setCell ⟨g, 5, none⟩ v5) base ok v xs :=
 Kd.R_set (Kd.R_set (Kd.R_set (Kd.R_set (Kd.R_set (Kd.R_set h xb ht 0 v0) (xb.set 0 v0) ht 1 v1) ((xb.set 0 v0).set 1 v1) ht 2 v2) (((xb.set 0 v0).set 1 v1).set 2 v2) ht 3 v3) ((((xb.set 0 v0).set 1 v1).set 2 v2).set 3 v3) ht 4 v4) (((((xb.set 0 v0).set 1 v1).set 2 v2).set 3 v3).set 4 v4) ht 5 v5
theorem scale_any (ct : List (List Pt)) (an : List I3) (xa xb xc av : Int) (A1 A2 : Option Addr) (c1 c2 : Nat) (size : Int) (w : World) (h1 : ct.length ≤ 1000000) (h2 : an.length ≤ 1000000) (h3 : ∀ q ∈ ct, q.length ≤ 1000000) (hCT : Kd.C kCt w A1 ct.length ct) (hCA : Kd.C kI3 w A2 an.length an) :
  Calls Try.prog 19 #[.agg #[.slice A1 ct.length c1, .slice A2 an.length c2, .int .i64 xa, .int .i64 xb, .int .i64 xc, .int .i64 av], .int .i64 size] w fun e w' => Below w.heap.size w w' ∧ ((scW size an xb xc av ct = true ∧ e = .returned (.agg #[.slice none 0 0, .slice none 0 0, .int .i64 0, .int .i64 0, .int .i64 0, .int .i64 0])) ∨ (scW size an xb xc av ct = false ∧ ∃ vb cb va cv, e = .returned (.agg #[.slice vb ct.length cb, .slice va an.length cv, .int .i64 xa, .int .i64 (mulQ xb size), .int .i64 (mulQ xc size), .int .i64 (mulQ av size)]) ∧ Kd.R kCt 71 w' w.heap.size (fun _ => True) (.slice vb ct.length cb) (ct.map (mapCF size)) ∧ Kd.R kI3 25 w' w.heap.size (fun _ => True) (.slice va an.length cv) (an.map (mapAF size)))) := by
 have HAL := lH_ h2
 have HCL := lH_ h1
 have HCP := lH_ h3
 have HCT := lH_ hCT
 have HCA := lH_ hCA
 clear h1 h2 h3 hCT hCA
 go_enter Try.func19, Try.ntmps19
 go_upto_region 1 with fail
 obtain ⟨w1, g2, hw, hg, DB, HX1, _⟩ := new_box w #[.slice A1 ct.length c1, .slice A2 an.length c2, .int .i64 xa, .int .i64 xb, .int .i64 xc, .int .i64 av] 51
 obtain ⟨w2, g4, hw2, hg2, ZB, HX2, _⟩ := new_box w1 #[.slice none 0 0, .slice none 0 0, .int .i64 0, .int .i64 0, .int .i64 0, .int .i64 0] 51
 have e5 : w.heap.size + 1 = g4 := by rw [← hg2, ← hw]; simp
 have GZ4 := lH_ (show w.heap.size ≤ g4 by omega)
 have N24 := lH_ (show g2 ≠ g4 by omega)
 rw [hw, hw2, e5, hg]
 clear hw hg hw2 hg2 e5
 have D2 := lH_ (DB.out.below HX2.out)
 have HXX := lH_ (bthen' HX1.out HX2.out)
 by_cases h1 : size < 4
 ·have d1 : decide (size < 4) = true := decide_eq_true h1
  have HWT : Hid (swB size = true) := lH_ (by unfold swB; rw [d1]; rfl)
  go_upto_region 2 with fail
  obtain ⟨w3, gs, hw, hg, SB, HX3, _⟩ := new_box w2 #[.int .i64 size, .bool true] 116
  rw [hw, hg]
  obtain ⟨w4, g5, hw4, hg4, G5, HX4, _⟩ := new_box w3 #[.pointer (some ⟨gs, 0, none⟩)] 114
  have e6 : gs + 1 = g5 := by rw [← hg4, ← hw, ← hg]; simp
  rw [hw4, e6]
  have ND := lH_ (show g2 ≠ gs by have := D2.out.lt; omega)
  have NZ := lH_ (show g4 ≠ gs by have := ZB.out.lt; omega)
  have NG5 := lH_ (show g5 ≠ gs by omega)
  have HWS := lH_ (show w.heap.size ≤ gs by have := HXX.out.size; omega)
  clear hw hg hw4 hg4 e6
  have SB4 := lH_ (SB.out.below HX4.out)
  have GS4 := lH_ SB4.out.lt
  have HX34 := lH_ (bthen' HX3.out HX4.out)
  have D4 := lH_ (D2.out.below HX34.out)
  have Z4 := lH_ (ZB.out.below HX34.out)
  have HX5 := lH_ (bthen' HXX.out HX34.out)
  have HJ := lH_ (fun v (h : Sc w4.heap.size gs w4 v) => (show Below w.heap.size w v from HX5.out.trans (h.below.mono HWS.out)))
  obtain ⟨m1, hm1⟩ : ∃ v, mulQ xb size = v := ⟨_, rfl⟩
  obtain ⟨m2, hm2⟩ : ∃ v, mulQ xc size = v := ⟨_, rfl⟩
  obtain ⟨m3, hm3⟩ : ∃ v, mulQ av size = v := ⟨_, rfl⟩
  obtain ⟨b1, q1⟩ : ∃ v, (true || an.any (mapAW size)) = v := ⟨_, rfl⟩
  obtain ⟨b2, q2⟩ : ∃ v, ((b1 || !mulOk xb size) || !mulOk xc size) = v := ⟨_, rfl⟩
  obtain ⟨b3, q3⟩ : ∃ v, (b2 || !mulOk av size) = v := ⟨_, rfl⟩
  have M1 := lH_ hm1
  have M2 := lH_ hm2
  have M3 := lH_ hm3
  have Q1 := lH_ q1
  have Q2 := lH_ q2
  have Q3 := lH_ q3
  clear hm1 hm2 hm3 q1 q2 q3
  refine start_ (n := 16) (S := fun w' => True) (ds := []) #[false, false, false, false, false, false, false, false, false, false, false, false, false, false, false, false] (by kernel_rfl) rfl rfl trivial (fun hHeld => ?_)
  refine with_tabW oScale.tab2 oScale.bits2 (fun HT_ HW_ => ?_)
  have HB : Aside0 (Sc w4.heap.size gs w4 w4.drew) := ⟨Sc.of (bdrew (Below.refl _ _)) (Nat.le_refl _) (Nat.le_of_lt GS4.out)⟩
  have S0 : Aside0 (Blk w4.drew gs #[.int .i64 size, .bool true] 116) := ⟨SB4.out.drew⟩
  generalize hwd : w4.drew = w1' at *
  clear hwd
  refine inv_at [0, 1, 2, 3, 4, 5, 6, 7, 8, 9, 10, 11, 12, 13, 14, 15] (fun a0_ b a w' => ∃ (va : Option Addr) (cv : Nat) (g6 : Nat) (m4_ : Value) (m13_ : Value) (m14_ : Value), a = putSel a0_ b [(0, 16, .pointer (some ⟨g2, 1, none⟩)), (1, 17, .slice A2 an.length c2), (2, 18, .pointer (some ⟨gs, 0, none⟩)), (3, 19, .func (.func 55) #[.pointer (some ⟨gs, 0, none⟩)] #[]), (4, 20, m4_), (5, 21, .pointer (some ⟨gs, 0, none⟩)), (6, 22, .pointer (some ⟨g2, 2, none⟩)), (7, 23, .agg #[.int .i64 xa, .int .i64 xb, .int .i64 xc]), (8, 24, .agg #[.int .i64 xa, .int .i64 m1, .int .i64 m2]), (9, 25, .pointer (some ⟨gs, 0, none⟩)), (10, 26, .pointer (some ⟨g2, 5, none⟩)), (11, 27, .int .i64 av), (12, 28, .int .i64 m3), (13, 29, m13_), (14, 6, m14_)] ∧ (Sc w4.heap.size gs w4 w') ∧ (b 4 = false → Blk w' gs #[.int .i64 size, .bool true] 116) ∧ (b 4 = true → b 8 = false → Blk w' gs #[.int .i64 size, .bool b1] 116) ∧ (b 8 = true → b 12 = false → Blk w' gs #[.int .i64 size, .bool b2] 116) ∧ (b 12 = true → Blk w' gs #[.int .i64 size, .bool b3] 116) ∧ (b 4 = true → Kd.R kI3 25 w' w4.heap.size (fun _ => True) (.slice va an.length cv) (an.map (mapAF size))) ∧ (b 14 = true → b 15 = false → w4.heap.size ≤ g6 ∧ Blk w' g6 #[.slice none 0 0, .slice none 0 0, .int .i64 0, .int .i64 0, .int .i64 0, .int .i64 0] 51) ∧ (b 15 = true → w4.heap.size ≤ g6 ∧ Blk w' g6 #[.slice none 0 0, .slice va an.length cv, .int .i64 xa, .int .i64 m1, .int .i64 m2, .int .i64 m3] 51) ∧ (b 4 = true → (m4_ : Value) = .slice va an.length cv) ∧ (b 13 = true → (m13_ : Value) = .agg #[.slice none 0 0, .slice va an.length cv, .int .i64 xa, .int .i64 m1, .int .i64 m2, .int .i64 m3]) ∧ (b 14 = true → (m14_ : Value) = .pointer (some ⟨g6, 0, none⟩))) HT_.out HW_.out (by kernel_rfl) (by kernel_rfl) ?_ ?_ ?_
  ·exact ⟨none, 0, 0, .bool false, .bool false, .bool false, by simp only [putSel, Bool.false_eq_true, if_false], HB.out, fun _ => S0.out, fun h_ => absurd h_ (by decide), fun h_ => absurd h_ (by decide), fun h_ => absurd h_ (by decide), fun h_ => absurd h_ (by decide), fun h_ => absurd h_ (by decide), fun h_ => absurd h_ (by decide), fun h_ => absurd h_ (by decide), fun h_ => absurd h_ (by decide), fun h_ => absurd h_ (by decide)⟩
  ·skip
   clear HB S0
   refine steps_cons ?_ ?_
   ·rintro b a w' ⟨va, cv, g6, m4_, m13_, m14_, ha, QHB, QS0, QS1, QS2, QS3, QVR, QOB, QOF, QX4_, QX13_, QX14_⟩ hb_ hon hoff
    refine ⟨_, rfl, fun K hK => ?_⟩
    have e2 : a.tmps[2]? = some (.pointer (some ⟨g2, 0, none⟩)) := by rw [ha]; exact (putSel_off rfl).trans rfl
    replace ha := aM_ ha
    have HB := aM_ QHB
    have S0 := aM_ (QS0 (hoff 4 rfl))
    refine value_ (w1 := w') (v := .pointer (some ⟨g2, 1, none⟩)) (by rfl) rfl ?_ ?_
    ·go_simp
     (try simp only [i64_w])
     try rfl
    refine hK.out _ _ ⟨va, cv, g6, m4_, m13_, m14_, (by rw [ha.out]; exact putSel_upk 0 hb_ rfl rfl rfl), QHB, QS0, dD_ (hoff 4 rfl), dD_ (hoff 8 rfl), dD_ (hoff 12 rfl), dD_ (hoff 4 rfl), QOB, dD_ (hoff 15 rfl), dD_ (hoff 4 rfl), dD_ (hoff 13 rfl), QX14_⟩
   refine steps_cons ?_ ?_
   ·rintro b a w' ⟨va, cv, g6, m4_, m13_, m14_, ha, QHB, QS0, QS1, QS2, QS3, QVR, QOB, QOF, QX4_, QX13_, QX14_⟩ hb_ hon hoff
    refine ⟨_, rfl, fun K hK => ?_⟩
    have e16 : a.tmps[16]? = some (.pointer (some ⟨g2, 1, none⟩)) := by rw [ha]; exact putSel_on (e := (0, 16, .pointer (some ⟨g2, 1, none⟩))) 0 rfl rfl (hon 0 rfl) rfl
    replace ha := aM_ ha
    have HB := aM_ QHB
    have S0 := aM_ (QS0 (hoff 4 rfl))
    have z1 := (HB.out.blk D4.out D4.out.lt ND.out).cell 1
    simp only [gA_, gZ_, gS_] at z1
    refine value_ (w1 := w') (v := .slice A2 an.length c2) (by rfl) rfl ?_ ?_
    ·go_simp
     (try simp only [i64_w])
     try rfl
    refine hK.out _ _ ⟨va, cv, g6, m4_, m13_, m14_, (by rw [ha.out]; exact putSel_upk 1 hb_ rfl rfl rfl), QHB, QS0, dD_ (hoff 4 rfl), dD_ (hoff 8 rfl), dD_ (hoff 12 rfl), dD_ (hoff 4 rfl), QOB, dD_ (hoff 15 rfl), dD_ (hoff 4 rfl), dD_ (hoff 13 rfl), QX14_⟩
   refine steps_cons ?_ ?_
   ·rintro b a w' ⟨va, cv, g6, m4_, m13_, m14_, ha, QHB, QS0, QS1, QS2, QS3, QVR, QOB, QOF, QX4_, QX13_, QX14_⟩ hb_ hon hoff
    refine ⟨_, rfl, fun K hK => ?_⟩
    have e5 : a.tmps[5]? = some (.pointer (some ⟨g5, 0, none⟩)) := by rw [ha]; exact (putSel_off rfl).trans rfl
    replace ha := aM_ ha
    have HB := aM_ QHB
    have S0 := aM_ (QS0 (hoff 4 rfl))
    have z := (HB.out.blk G5.out G5.out.lt NG5.out).cell 0
    simp only [gA_, gZ_, gS_] at z
    refine value_ (w1 := w') (v := .pointer (some ⟨gs, 0, none⟩)) (by rfl) rfl ?_ ?_
    ·go_simp
     (try simp only [i64_w])
     try rfl
    refine hK.out _ _ ⟨va, cv, g6, m4_, m13_, m14_, (by rw [ha.out]; exact putSel_upk 2 hb_ rfl rfl rfl), QHB, QS0, dD_ (hoff 4 rfl), dD_ (hoff 8 rfl), dD_ (hoff 12 rfl), dD_ (hoff 4 rfl), QOB, dD_ (hoff 15 rfl), dD_ (hoff 4 rfl), dD_ (hoff 13 rfl), QX14_⟩
   refine steps_cons ?_ ?_
   ·rintro b a w' ⟨va, cv, g6, m4_, m13_, m14_, ha, QHB, QS0, QS1, QS2, QS3, QVR, QOB, QOF, QX4_, QX13_, QX14_⟩ hb_ hon hoff
    refine ⟨_, rfl, fun K hK => ?_⟩
    have e18 : a.tmps[18]? = some (.pointer (some ⟨gs, 0, none⟩)) := by rw [ha]; exact putSel_on (e := (2, 18, .pointer (some ⟨gs, 0, none⟩))) 2 rfl rfl (hon 2 rfl) rfl
    replace ha := aM_ ha
    have HB := aM_ QHB
    have S0 := aM_ (QS0 (hoff 4 rfl))
    refine value_ (w1 := w') (v := .func (.func 55) #[.pointer (some ⟨gs, 0, none⟩)] #[]) (by rfl) rfl ?_ ?_
    ·go_simp
     (try simp only [i64_w])
     try rfl
    refine hK.out _ _ ⟨va, cv, g6, m4_, m13_, m14_, (by rw [ha.out]; exact putSel_upk 3 hb_ rfl rfl rfl), QHB, QS0, dD_ (hoff 4 rfl), dD_ (hoff 8 rfl), dD_ (hoff 12 rfl), dD_ (hoff 4 rfl), QOB, dD_ (hoff 15 rfl), dD_ (hoff 4 rfl), dD_ (hoff 13 rfl), QX14_⟩
   refine steps_cons ?_ ?_
   ·rintro b a w' ⟨va, cv, g6, m4_, m13_, m14_, ha, QHB, QS0, QS1, QS2, QS3, QVR, QOB, QOF, QX4_, QX13_, QX14_⟩ hb_ hon hoff
    refine ⟨_, rfl, fun K hK => ?_⟩
    have e17 : a.tmps[17]? = some (.slice A2 an.length c2) := by rw [ha]; exact putSel_on (e := (1, 17, .slice A2 an.length c2)) 1 rfl rfl (hon 1 rfl) rfl
    have e19 : a.tmps[19]? = some (.func (.func 55) #[.pointer (some ⟨gs, 0, none⟩)] #[]) := by rw [ha]; exact putSel_on (e := (3, 19, .func (.func 55) #[.pointer (some ⟨gs, 0, none⟩)] #[])) 3 rfl rfl (hon 3 rfl) rfl
    replace ha := aM_ ha
    have HB := aM_ QHB
    have S0 := aM_ (QS0 hb_)
    refine call_ 54 #[.slice A2 an.length c2, .func (.func 55) #[.pointer (some ⟨gs, 0, none⟩)] #[]] (by rfl) rfl ?_ ?_
    ·go_simp
    refine (mapA_any an A2 c2 size true gs w w' HAL.out HWS.out (HJ.out w' HB.out) HCA.out S0.out).mono ?_
    rintro e w2' ⟨V, rfl, hR, hs, hbk⟩
    obtain ⟨va', cv', rfl⟩ := Kd.R_slice hR
    rw [List.length_map] at hR ⊢
    rw [Q1.out] at hbk
    refine ⟨_, rfl, ?_⟩
    refine hK.out _ _ ⟨va', cv', g6, (.slice va' an.length cv'), m13_, m14_, (by rw [ha.out]; exact putSel_upk 4 hb_ rfl rfl rfl), HB.out.trans (hs.mono HB.out.size), dE_ (up_self b 4), fun _ _ => hbk, dD_ (hoff 8 rfl), dD_ (hoff 12 rfl), fun _ => Kd.R_lower hR HB.out.size, fun h0_ h1_ => ⟨(QOB h0_ h1_).1, hs.blk (QOB h0_ h1_).2 (QOB h0_ h1_).2.lt (by have := (QOB h0_ h1_).1; have := GS4.out; omega)⟩, dD_ (hoff 15 rfl), fun _ => rfl, dD_ (hoff 13 rfl), QX14_⟩
   refine steps_cons ?_ ?_
   ·rintro b a w' ⟨va, cv, g6, m4_, m13_, m14_, ha, QHB, QS0, QS1, QS2, QS3, QVR, QOB, QOF, QX4_, QX13_, QX14_⟩ hb_ hon hoff
    refine ⟨_, rfl, fun K hK => ?_⟩
    have e5 : a.tmps[5]? = some (.pointer (some ⟨g5, 0, none⟩)) := by rw [ha]; exact (putSel_off rfl).trans rfl
    replace ha := aM_ ha
    have HB := aM_ QHB
    have z := (HB.out.blk G5.out G5.out.lt NG5.out).cell 0
    simp only [gA_, gZ_, gS_] at z
    refine value_ (w1 := w') (v := .pointer (some ⟨gs, 0, none⟩)) (by rfl) rfl ?_ ?_
    ·go_simp
     (try simp only [i64_w])
     try rfl
    refine hK.out _ _ ⟨va, cv, g6, m4_, m13_, m14_, (by rw [ha.out]; exact putSel_upk 5 hb_ rfl rfl rfl), QHB, QS0, QS1, dD_ (hoff 8 rfl), dD_ (hoff 12 rfl), QVR, QOB, dD_ (hoff 15 rfl), QX4_, dD_ (hoff 13 rfl), QX14_⟩
   refine steps_cons ?_ ?_
   ·rintro b a w' ⟨va, cv, g6, m4_, m13_, m14_, ha, QHB, QS0, QS1, QS2, QS3, QVR, QOB, QOF, QX4_, QX13_, QX14_⟩ hb_ hon hoff
    refine ⟨_, rfl, fun K hK => ?_⟩
    have e2 : a.tmps[2]? = some (.pointer (some ⟨g2, 0, none⟩)) := by rw [ha]; exact (putSel_off rfl).trans rfl
    replace ha := aM_ ha
    have HB := aM_ QHB
    refine value_ (w1 := w') (v := .pointer (some ⟨g2, 2, none⟩)) (by rfl) rfl ?_ ?_
    ·go_simp
     (try simp only [i64_w])
     try rfl
    refine hK.out _ _ ⟨va, cv, g6, m4_, m13_, m14_, (by rw [ha.out]; exact putSel_upk 6 hb_ rfl rfl rfl), QHB, QS0, QS1, dD_ (hoff 8 rfl), dD_ (hoff 12 rfl), QVR, QOB, dD_ (hoff 15 rfl), QX4_, dD_ (hoff 13 rfl), QX14_⟩
   refine steps_cons ?_ ?_
   ·rintro b a w' ⟨va, cv, g6, m4_, m13_, m14_, ha, QHB, QS0, QS1, QS2, QS3, QVR, QOB, QOF, QX4_, QX13_, QX14_⟩ hb_ hon hoff
    refine ⟨_, rfl, fun K hK => ?_⟩
    have e22 : a.tmps[22]? = some (.pointer (some ⟨g2, 2, none⟩)) := by rw [ha]; exact putSel_on (e := (6, 22, .pointer (some ⟨g2, 2, none⟩))) 6 rfl rfl (hon 6 rfl) rfl
    replace ha := aM_ ha
    have HB := aM_ QHB
    have z2 := (HB.out.blk D4.out D4.out.lt ND.out).cell 2
    have z3 := (HB.out.blk D4.out D4.out.lt ND.out).cell 3
    have z4 := (HB.out.blk D4.out D4.out.lt ND.out).cell 4
    simp only [gA_, gZ_, gS_] at z2 z3 z4
    refine value_ (w1 := w') (v := .agg #[.int .i64 xa, .int .i64 xb, .int .i64 xc]) (by rfl) rfl ?_ ?_
    ·go_simp
     (try simp only [i64_w])
     try rfl
    refine hK.out _ _ ⟨va, cv, g6, m4_, m13_, m14_, (by rw [ha.out]; exact putSel_upk 7 hb_ rfl rfl rfl), QHB, QS0, QS1, dD_ (hoff 8 rfl), dD_ (hoff 12 rfl), QVR, QOB, dD_ (hoff 15 rfl), QX4_, dD_ (hoff 13 rfl), QX14_⟩
   refine steps_cons ?_ ?_
   ·rintro b a w' ⟨va, cv, g6, m4_, m13_, m14_, ha, QHB, QS0, QS1, QS2, QS3, QVR, QOB, QOF, QX4_, QX13_, QX14_⟩ hb_ hon hoff
    refine ⟨_, rfl, fun K hK => ?_⟩
    have e21 : a.tmps[21]? = some (.pointer (some ⟨gs, 0, none⟩)) := by rw [ha]; exact putSel_on (e := (5, 21, .pointer (some ⟨gs, 0, none⟩))) 5 rfl rfl (hon 5 rfl) rfl
    have e23 : a.tmps[23]? = some (.agg #[.int .i64 xa, .int .i64 xb, .int .i64 xc]) := by rw [ha]; exact putSel_on (e := (7, 23, .agg #[.int .i64 xa, .int .i64 xb, .int .i64 xc])) 7 rfl rfl (hon 7 rfl) rfl
    replace ha := aM_ ha
    have HB := aM_ QHB
    have S1 := aM_ (QS1 (hon 4 rfl) hb_)
    have VR := aM_ (QVR (hon 4 rfl))
    refine call_ 55 #[.pointer (some ⟨gs, 0, none⟩), .agg #[.int .i64 xa, .int .i64 xb, .int .i64 xc]] (by rfl) rfl ?_ ?_
    ·go_simp
    refine (oAch_any xa xb xc size b1 gs w' S1.out).mono ?_
    rintro e w2' ⟨rfl, hs, hbk⟩
    rw [M1.out, M2.out]
    rw [Q2.out] at hbk
    refine ⟨_, rfl, ?_⟩
    refine hK.out _ _ ⟨va, cv, g6, m4_, m13_, m14_, (by rw [ha.out]; exact putSel_upk 8 hb_ rfl rfl rfl), HB.out.trans (hs.mono HB.out.size), fun h0_ => absurd ((hon 4 rfl).symm.trans h0_) (by decide), fun _ => dE_ (up_self b 8), fun _ _ => hbk, dD_ (hoff 12 rfl), fun _ => Sc.R VR.out S1.out (by decide) hs, fun h0_ h1_ => ⟨(QOB h0_ h1_).1, hs.blk (QOB h0_ h1_).2 (QOB h0_ h1_).2.lt (by have := (QOB h0_ h1_).1; have := GS4.out; omega)⟩, dD_ (hoff 15 rfl), QX4_, dD_ (hoff 13 rfl), QX14_⟩
   refine steps_cons ?_ ?_
   ·rintro b a w' ⟨va, cv, g6, m4_, m13_, m14_, ha, QHB, QS0, QS1, QS2, QS3, QVR, QOB, QOF, QX4_, QX13_, QX14_⟩ hb_ hon hoff
    refine ⟨_, rfl, fun K hK => ?_⟩
    have e5 : a.tmps[5]? = some (.pointer (some ⟨g5, 0, none⟩)) := by rw [ha]; exact (putSel_off rfl).trans rfl
    replace ha := aM_ ha
    have HB := aM_ QHB
    have z := (HB.out.blk G5.out G5.out.lt NG5.out).cell 0
    simp only [gA_, gZ_, gS_] at z
    refine value_ (w1 := w') (v := .pointer (some ⟨gs, 0, none⟩)) (by rfl) rfl ?_ ?_
    ·go_simp
     (try simp only [i64_w])
     try rfl
    refine hK.out _ _ ⟨va, cv, g6, m4_, m13_, m14_, (by rw [ha.out]; exact putSel_upk 9 hb_ rfl rfl rfl), QHB, QS0, QS1, QS2, dD_ (hoff 12 rfl), QVR, QOB, dD_ (hoff 15 rfl), QX4_, dD_ (hoff 13 rfl), QX14_⟩
   refine steps_cons ?_ ?_
   ·rintro b a w' ⟨va, cv, g6, m4_, m13_, m14_, ha, QHB, QS0, QS1, QS2, QS3, QVR, QOB, QOF, QX4_, QX13_, QX14_⟩ hb_ hon hoff
    refine ⟨_, rfl, fun K hK => ?_⟩
    have e2 : a.tmps[2]? = some (.pointer (some ⟨g2, 0, none⟩)) := by rw [ha]; exact (putSel_off rfl).trans rfl
    replace ha := aM_ ha
    have HB := aM_ QHB
    refine value_ (w1 := w') (v := .pointer (some ⟨g2, 5, none⟩)) (by rfl) rfl ?_ ?_
    ·go_simp
     (try simp only [i64_w])
     try rfl
    refine hK.out _ _ ⟨va, cv, g6, m4_, m13_, m14_, (by rw [ha.out]; exact putSel_upk 10 hb_ rfl rfl rfl), QHB, QS0, QS1, QS2, dD_ (hoff 12 rfl), QVR, QOB, dD_ (hoff 15 rfl), QX4_, dD_ (hoff 13 rfl), QX14_⟩
   refine steps_cons ?_ ?_
   ·rintro b a w' ⟨va, cv, g6, m4_, m13_, m14_, ha, QHB, QS0, QS1, QS2, QS3, QVR, QOB, QOF, QX4_, QX13_, QX14_⟩ hb_ hon hoff
    refine ⟨_, rfl, fun K hK => ?_⟩
    have e26 : a.tmps[26]? = some (.pointer (some ⟨g2, 5, none⟩)) := by rw [ha]; exact putSel_on (e := (10, 26, .pointer (some ⟨g2, 5, none⟩))) 10 rfl rfl (hon 10 rfl) rfl
    replace ha := aM_ ha
    have HB := aM_ QHB
    have z5 := (HB.out.blk D4.out D4.out.lt ND.out).cell 5
    simp only [gA_, gZ_, gS_] at z5
    refine value_ (w1 := w') (v := .int .i64 av) (by rfl) rfl ?_ ?_
    ·go_simp
     (try simp only [i64_w])
     try rfl
    refine hK.out _ _ ⟨va, cv, g6, m4_, m13_, m14_, (by rw [ha.out]; exact putSel_upk 11 hb_ rfl rfl rfl), QHB, QS0, QS1, QS2, dD_ (hoff 12 rfl), QVR, QOB, dD_ (hoff 15 rfl), QX4_, dD_ (hoff 13 rfl), QX14_⟩
   refine steps_cons ?_ ?_
   ·rintro b a w' ⟨va, cv, g6, m4_, m13_, m14_, ha, QHB, QS0, QS1, QS2, QS3, QVR, QOB, QOF, QX4_, QX13_, QX14_⟩ hb_ hon hoff
    refine ⟨_, rfl, fun K hK => ?_⟩
    have e25 : a.tmps[25]? = some (.pointer (some ⟨gs, 0, none⟩)) := by rw [ha]; exact putSel_on (e := (9, 25, .pointer (some ⟨gs, 0, none⟩))) 9 rfl rfl (hon 9 rfl) rfl
    have e27 : a.tmps[27]? = some (.int .i64 av) := by rw [ha]; exact putSel_on (e := (11, 27, .int .i64 av)) 11 rfl rfl (hon 11 rfl) rfl
    replace ha := aM_ ha
    have HB := aM_ QHB
    have S2 := aM_ (QS2 (hon 8 rfl) hb_)
    have VR := aM_ (QVR (hon 4 rfl))
    refine call_ 56 #[.pointer (some ⟨gs, 0, none⟩), .int .i64 av] (by rfl) rfl ?_ ?_
    ·go_simp
    refine (number_any av size b2 gs w' S2.out).mono ?_
    rintro e w2' ⟨rfl, hs, hbk⟩
    rw [M3.out]
    rw [Q3.out] at hbk
    refine ⟨_, rfl, ?_⟩
    refine hK.out _ _ ⟨va, cv, g6, m4_, m13_, m14_, (by rw [ha.out]; exact putSel_upk 12 hb_ rfl rfl rfl), HB.out.trans (hs.mono HB.out.size), fun h0_ => absurd ((hon 4 rfl).symm.trans h0_) (by decide), fun _ => dE_ (hon 8 rfl), fun _ => dE_ (up_self b 12), fun _ => hbk, fun _ => Sc.R VR.out S2.out (by decide) hs, fun h0_ h1_ => ⟨(QOB h0_ h1_).1, hs.blk (QOB h0_ h1_).2 (QOB h0_ h1_).2.lt (by have := (QOB h0_ h1_).1; have := GS4.out; omega)⟩, dD_ (hoff 15 rfl), QX4_, dD_ (hoff 13 rfl), QX14_⟩
   refine steps_cons ?_ ?_
   ·rintro b a w' ⟨va, cv, g6, m4_, m13_, m14_, ha, QHB, QS0, QS1, QS2, QS3, QVR, QOB, QOF, QX4_, QX13_, QX14_⟩ hb_ hon hoff
    refine ⟨_, rfl, fun K hK => ?_⟩
    have e20 : a.tmps[20]? = some (m4_) := by rw [ha]; exact putSel_on (e := (4, 20, m4_)) 4 rfl rfl (hon 4 rfl) rfl
    rw [QX4_ (hon 4 rfl)] at e20
    have e24 : a.tmps[24]? = some (.agg #[.int .i64 xa, .int .i64 m1, .int .i64 m2]) := by rw [ha]; exact putSel_on (e := (8, 24, .agg #[.int .i64 xa, .int .i64 m1, .int .i64 m2])) 8 rfl rfl (hon 8 rfl) rfl
    have e28 : a.tmps[28]? = some (.int .i64 m3) := by rw [ha]; exact putSel_on (e := (12, 28, .int .i64 m3)) 12 rfl rfl (hon 12 rfl) rfl
    replace ha := aM_ ha
    have HB := aM_ QHB
    have S3 := aM_ (QS3 (hon 12 rfl))
    have VR := aM_ (QVR (hon 4 rfl))
    refine value_ (w1 := w') (v := .agg #[.slice none 0 0, .slice va an.length cv, .int .i64 xa, .int .i64 m1, .int .i64 m2, .int .i64 m3]) (by rfl) rfl ?_ ?_
    ·go_simp
     (try simp only [i64_w])
     try rfl
    refine hK.out _ _ ⟨va, cv, g6, m4_, (.agg #[.slice none 0 0, .slice va an.length cv, .int .i64 xa, .int .i64 m1, .int .i64 m2, .int .i64 m3]), m14_, (by rw [ha.out]; exact putSel_upk 13 hb_ rfl rfl rfl), QHB, fun h0_ => absurd ((hon 4 rfl).symm.trans h0_) (by decide), fun _ => dE_ (hon 8 rfl), fun _ => dE_ (hon 12 rfl), QS3, QVR, QOB, dD_ (hoff 15 rfl), QX4_, fun _ => rfl, QX14_⟩
   refine steps_cons ?_ ?_
   ·rintro b a w' ⟨va, cv, g6, m4_, m13_, m14_, ha, QHB, QS0, QS1, QS2, QS3, QVR, QOB, QOF, QX4_, QX13_, QX14_⟩ hb_ hon hoff
    refine ⟨_, rfl, fun K hK => ?_⟩
    replace ha := aM_ ha
    have HB := aM_ QHB
    refine value_ (w1 := w'.alloc (.cells #[.slice none 0 0, .slice none 0 0, .int .i64 0, .int .i64 0, .int .i64 0, .int .i64 0] 51)) (v := .pointer (some ⟨w'.heap.size, 0, none⟩)) (by rfl) rfl ?_ ?_
    ·go_simp
    refine hK.out _ _ ⟨va, cv, w'.heap.size, m4_, m13_, (.pointer (some ⟨w'.heap.size, 0, none⟩)), (by rw [ha.out]; exact putSel_upk 14 hb_ rfl rfl rfl), HB.out.step HB.out.size (Nat.le_trans (Nat.le_of_lt GS4.out) HB.out.size) (below_alloc (Below.refl _ w') _), fun h0_ => (QS0 h0_).alloc _, fun h0_ h1_ => (QS1 h0_ h1_).alloc _, fun h0_ h1_ => (QS2 h0_ h1_).alloc _, fun h0_ => (QS3 h0_).alloc _, fun h0_ => Kd.R_below (QVR h0_) (below_alloc (Below.refl _ w') _), fun _ _ => ⟨HB.out.size, Blk.new w' _ _ rfl⟩, dD_ (hoff 15 rfl), QX4_, QX13_, fun _ => rfl⟩
   refine steps_cons ?_ ?_
   ·rintro b a w' ⟨va, cv, g6, m4_, m13_, m14_, ha, QHB, QS0, QS1, QS2, QS3, QVR, QOB, QOF, QX4_, QX13_, QX14_⟩ hb_ hon hoff
    refine ⟨_, rfl, fun K hK => ?_⟩
    have e6 : a.tmps[6]? = some (m14_) := by rw [ha]; exact putSel_on (e := (14, 6, m14_)) 14 rfl rfl (hon 14 rfl) rfl
    rw [QX14_ (hon 14 rfl)] at e6
    have e29 : a.tmps[29]? = some (m13_) := by rw [ha]; exact putSel_on (e := (13, 29, m13_)) 13 rfl rfl (hon 13 rfl) rfl
    rw [QX13_ (hon 13 rfl)] at e29
    replace ha := aM_ ha
    have HB := aM_ QHB
    have S3 := aM_ (QS3 (hon 12 rfl))
    have VR := aM_ (QVR (hon 4 rfl))
    have OB := aM_ (QOB (hon 14 rfl) hb_)
    have c0 := OB.out.2.cell 0
    have c1 := OB.out.2.cell 1
    have c2 := OB.out.2.cell 2
    have c3 := OB.out.2.cell 3
    have c4 := OB.out.2.cell 4
    have c5 := OB.out.2.cell 5
    simp only [gA_, gZ_, gS_] at c0 c1 c2 c3 c4 c5
    have f0 := OB.out.2.frozen 0
    have f1 := OB.out.2.frozen 1
    have f2 := OB.out.2.frozen 2
    have f3 := OB.out.2.frozen 3
    have f4 := OB.out.2.frozen 4
    have f5 := OB.out.2.frozen 5
    refine skip_ (w1 := ((((((w'.setCell ⟨g6, 0, none⟩ (.slice none 0 0)).setCell ⟨g6, 1, none⟩ (.slice va an.length cv)).setCell ⟨g6, 2, none⟩ (.int .i64 xa)).setCell ⟨g6, 3, none⟩ (.int .i64 m1)).setCell ⟨g6, 4, none⟩ (.int .i64 m2)).setCell ⟨g6, 5, none⟩ (.int .i64 m3))) (by rfl) rfl ?_ ?_
    ·go_simp
    refine hK.out _ _ ⟨va, cv, g6, m4_, m13_, m14_, (by rw [ha.out]; exact putSel_none (v := undef) rfl), ((((((HB.out.trans (Sc.setN _ OB.out.1 (by have := OB.out.1; have := GS4.out; omega) 0 _)).trans (Sc.setN _ OB.out.1 (by have := OB.out.1; have := GS4.out; omega) 1 _)).trans (Sc.setN _ OB.out.1 (by have := OB.out.1; have := GS4.out; omega) 2 _)).trans (Sc.setN _ OB.out.1 (by have := OB.out.1; have := GS4.out; omega) 3 _)).trans (Sc.setN _ OB.out.1 (by have := OB.out.1; have := GS4.out; omega) 4 _)).trans (Sc.setN _ OB.out.1 (by have := OB.out.1; have := GS4.out; omega) 5 _)), fun h0_ => absurd ((hon 4 rfl).symm.trans h0_) (by decide), fun _ => dE_ (hon 8 rfl), fun _ => dE_ (hon 12 rfl), fun _ => ((((((S3.out.far (by have := OB.out.1; have := GS4.out; omega) 0 _).far (by have := OB.out.1; have := GS4.out; omega) 1 _).far (by have := OB.out.1; have := GS4.out; omega) 2 _).far (by have := OB.out.1; have := GS4.out; omega) 3 _).far (by have := OB.out.1; have := GS4.out; omega) 4 _).far (by have := OB.out.1; have := GS4.out; omega) 5 _), fun _ => R_put6 VR.out OB.out.2 (by decide) _ _ _ _ _ _, fun _ => dE_ (up_self b 15), fun _ => ⟨OB.out.1, ((((((OB.out.2.put 0 _ rfl).put 1 _ rfl).put 2 _ rfl).put 3 _ rfl).put 4 _ rfl).put 5 _ rfl)⟩, QX4_, QX13_, QX14_⟩
   exact steps_nil
  ·rintro b a w' hall ⟨va, cv, g6, m4_, m13_, m14_, ha, QHB, QS0, QS1, QS2, QS3, QVR, QOB, QOF, QX4_, QX13_, QX14_⟩
   clear HB S0
   have hb0_ := hall 0 (by kernel_rfl)
   have hb1_ := hall 1 (by kernel_rfl)
   have hb2_ := hall 2 (by kernel_rfl)
   have hb3_ := hall 3 (by kernel_rfl)
   have hb4_ := hall 4 (by kernel_rfl)
   have hb5_ := hall 5 (by kernel_rfl)
   have hb6_ := hall 6 (by kernel_rfl)
   have hb7_ := hall 7 (by kernel_rfl)
   have hb8_ := hall 8 (by kernel_rfl)
   have hb9_ := hall 9 (by kernel_rfl)
   have hb10_ := hall 10 (by kernel_rfl)
   have hb11_ := hall 11 (by kernel_rfl)
   have hb12_ := hall 12 (by kernel_rfl)
   have hb13_ := hall 13 (by kernel_rfl)
   have hb14_ := hall 14 (by kernel_rfl)
   have hb15_ := hall 15 (by kernel_rfl)
   subst ha
   obtain rfl := QX4_ hb4_
   obtain rfl := QX13_ hb13_
   obtain rfl := QX14_ hb14_
   simp only [putSel, hb0_, hb1_, hb2_, hb3_, hb4_, hb5_, hb6_, hb7_, hb8_, hb9_, hb10_, hb11_, hb12_, hb13_, hb14_, hb15_, if_true, Act.put, List.setIfInBounds_toArray, List.set_cons_zero, List.set_cons_succ]
   have HB := aM_ QHB
   clear QHB
   clear QS0
   clear QS1
   clear QS2
   have S3 := aM_ (QS3 hb12_)
   clear QS3
   have VR := aM_ (QVR hb4_)
   clear QVR
   clear QOB
   have OF := aM_ (QOF hb15_)
   clear QOF
   clear hall hb0_ hb1_ hb2_ hb3_ hb4_ hb5_ hb6_ hb7_ hb8_ hb9_ hb10_ hb11_ hb12_ hb13_ hb14_ hb15_
   have OFB := lH_ OF.out.2
   have OFL := lH_ OF.out.1
   have z0 := (HB.out.blk D4.out D4.out.lt ND.out).cell 0
   have o0 := OFB.out.cell 0
   have f0 := OFB.out.frozen 0
   simp only [gA_, gZ_, gS_] at z0 o0
   go_wp2_with fail
   refine (mapC_any ct A1 c1 size b3 gs g5 w w' HCL.out HCP.out HWS.out (HJ.out w' HB.out) HCT.out S3.out (HB.out.blk G5.out G5.out.lt NG5.out) NG5.out).mono ?_
   rintro e w5 ⟨V, rfl, hR, hs, hbk⟩
   obtain ⟨vb, cb, rfl⟩ := Kd.R_slice hR
   rw [List.length_map] at hR ⊢
   have HB5 := HB.out.trans (hs.mono HB.out.size)
   have OF5 := hs.blk OFB.out OFB.out.lt (by have := OFL.out; have := GS4.out; omega)
   have VR5 := Sc.R VR.out S3.out (by decide) hs
   clear z0 o0 f0
   have o0 := OF5.cell 0
   have f0 := OF5.frozen 0
   simp only [gA_, gZ_, gS_] at o0
   go_upto_region 4 with fail
   have OF6 : Hid (Blk _ g6 #[.slice vb ct.length cb, .slice va an.length cv, .int .i64 xa, .int .i64 m1, .int .i64 m2, .int .i64 m3] 51) := lH_ (OF5.put 0 (.slice vb ct.length cb) rfl)
   have HB6 := lH_ (HB5.trans (Sc.setN w5 OFL.out (by have := OFL.out; have := GS4.out; omega) 0 (.slice vb ct.length cb)))
   have K6 := lH_ (hbk.far (g' := g6) (show gs ≠ g6 by have := OFL.out; have := GS4.out; omega) 0 (.slice vb ct.length cb))
   have VR6 := lH_ (Kd.R_set VR5 OF5 (by decide) 0 (.slice vb ct.length cb))
   have CR6 := lH_ (Kd.R_lower (Kd.R_set hR OF5 (by decide) 0 (.slice vb ct.length cb)) HB.out.size)
   clear o0 f0 HB5 OF5 VR5 hbk hR hs
   generalize World.setCell _ _ _ = w6 at *
   obtain ⟨b4, q4⟩ : ∃ v, (b3 || ct.any (mapCW size)) = v := ⟨_, rfl⟩
   rw [q4] at K6
   have Q4 := lH_ q4
   clear q4
   have z0 := (HB6.out.blk G5.out G5.out.lt NG5.out).cell 0
   have k1 := K6.out.cell 1
   simp only [gA_, gZ_, gS_] at z0 k1
   have HSW : Hid (scW size an xb xc av ct = b4) := lH_ (by unfold scW; rw [HWT.out, Q1.out, Q2.out, Q3.out, Q4.out])
   have HBZ := HJ.out w6 HB6.out
   have Z6 := lH_ (HB6.out.blk Z4.out Z4.out.lt NZ.out)
   cases b4
   ·have y0 := Z6.out.cell 0
    have y1 := Z6.out.cell 1
    have y2 := Z6.out.cell 2
    have y3 := Z6.out.cell 3
    have y4 := Z6.out.cell 4
    have y5 := Z6.out.cell 5
    have f0 := Z6.out.frozen 0
    have f1 := Z6.out.frozen 1
    have f2 := Z6.out.frozen 2
    have f3 := Z6.out.frozen 3
    have f4 := Z6.out.frozen 4
    have f5 := Z6.out.frozen 5
    simp only [gA_, gZ_, gS_] at y0 y1 y2 y3 y4 y5
    have o0 := OF6.out.cell 0
    have o1 := OF6.out.cell 1
    have o2 := OF6.out.cell 2
    have o3 := OF6.out.cell 3
    have o4 := OF6.out.cell 4
    have o5 := OF6.out.cell 5
    simp only [gA_, gZ_, gS_] at o0 o1 o2 o3 o4 o5
    go_wp2_with fail
    refine bodyPost_ret (res_c (g := g4) rfl _ _ _ _ _ rfl ((((((Z6.out.put 0 _ rfl).put 1 _ rfl).put 2 _ rfl).put 3 _ rfl).put 4 _ rfl).put 5 _ rfl) rfl Try.underlying51 (by kernel_rfl)) rfl ⟨(bset (bset (bset (bset (bset (bset HBZ GZ4.out 0 _) GZ4.out 1 _) GZ4.out 2 _) GZ4.out 3 _) GZ4.out 4 _) GZ4.out 5 _), .inr ⟨HSW.out, vb, cb, va, cv, by rw [M1.out, M2.out, M3.out]; rfl, Kd.R_lower (R_put6 CR6.out Z6.out (by decide) _ _ _ _ _ _) HX5.out.size, Kd.R_lower (R_put6 VR6.out Z6.out (by decide) _ _ _ _ _ _) HX5.out.size⟩⟩
   ·have y0 := Z6.out.cell 0
    have y1 := Z6.out.cell 1
    have y2 := Z6.out.cell 2
    have y3 := Z6.out.cell 3
    have y4 := Z6.out.cell 4
    have y5 := Z6.out.cell 5
    have f0 := Z6.out.frozen 0
    have f1 := Z6.out.frozen 1
    have f2 := Z6.out.frozen 2
    have f3 := Z6.out.frozen 3
    have f4 := Z6.out.frozen 4
    have f5 := Z6.out.frozen 5
    simp only [gA_, gZ_, gS_] at y0 y1 y2 y3 y4 y5
    go_wp2_with fail
    refine bodyPost_ret (res_c (g := g4) rfl _ _ _ _ _ rfl ((((((Z6.out.put 0 _ rfl).put 1 _ rfl).put 2 _ rfl).put 3 _ rfl).put 4 _ rfl).put 5 _ rfl) rfl Try.underlying51 (by kernel_rfl)) rfl ⟨(bset (bset (bset (bset (bset (bset HBZ GZ4.out 0 _) GZ4.out 1 _) GZ4.out 2 _) GZ4.out 3 _) GZ4.out 4 _) GZ4.out 5 _), .inl ⟨HSW.out, rfl⟩⟩
 ·have d1 : decide (size < 4) = false := decide_eq_false h1
  by_cases h2 : 32 < size
  ·have d2 : decide (32 < size) = true := decide_eq_true h2
   have HWT : Hid (swB size = true) := lH_ (by unfold swB; rw [d1, d2]; rfl)
   go_upto_region 2 with fail
   obtain ⟨w3, gs, hw, hg, SB, HX3, _⟩ := new_box w2 #[.int .i64 size, .bool true] 116
   rw [hw, hg]
   obtain ⟨w4, g5, hw4, hg4, G5, HX4, _⟩ := new_box w3 #[.pointer (some ⟨gs, 0, none⟩)] 114
   have e6 : gs + 1 = g5 := by rw [← hg4, ← hw, ← hg]; simp
   rw [hw4, e6]
   have ND := lH_ (show g2 ≠ gs by have := D2.out.lt; omega)
   have NZ := lH_ (show g4 ≠ gs by have := ZB.out.lt; omega)
   have NG5 := lH_ (show g5 ≠ gs by omega)
   have HWS := lH_ (show w.heap.size ≤ gs by have := HXX.out.size; omega)
   clear hw hg hw4 hg4 e6
   have SB4 := lH_ (SB.out.below HX4.out)
   have GS4 := lH_ SB4.out.lt
   have HX34 := lH_ (bthen' HX3.out HX4.out)
   have D4 := lH_ (D2.out.below HX34.out)
   have Z4 := lH_ (ZB.out.below HX34.out)
   have HX5 := lH_ (bthen' HXX.out HX34.out)
   have HJ := lH_ (fun v (h : Sc w4.heap.size gs w4 v) => (show Below w.heap.size w v from HX5.out.trans (h.below.mono HWS.out)))
   obtain ⟨m1, hm1⟩ : ∃ v, mulQ xb size = v := ⟨_, rfl⟩
   obtain ⟨m2, hm2⟩ : ∃ v, mulQ xc size = v := ⟨_, rfl⟩
   obtain ⟨m3, hm3⟩ : ∃ v, mulQ av size = v := ⟨_, rfl⟩
   obtain ⟨b1, q1⟩ : ∃ v, (true || an.any (mapAW size)) = v := ⟨_, rfl⟩
   obtain ⟨b2, q2⟩ : ∃ v, ((b1 || !mulOk xb size) || !mulOk xc size) = v := ⟨_, rfl⟩
   obtain ⟨b3, q3⟩ : ∃ v, (b2 || !mulOk av size) = v := ⟨_, rfl⟩
   have M1 := lH_ hm1
   have M2 := lH_ hm2
   have M3 := lH_ hm3
   have Q1 := lH_ q1
   have Q2 := lH_ q2
   have Q3 := lH_ q3
   clear hm1 hm2 hm3 q1 q2 q3
   refine start_ (n := 16) (S := fun w' => True) (ds := []) #[false, false, false, false, false, false, false, false, false, false, false, false, false, false, false, false] (by kernel_rfl) rfl rfl trivial (fun hHeld => ?_)
   refine with_tabW oScale.tab2 oScale.bits2 (fun HT_ HW_ => ?_)
   have HB : Aside0 (Sc w4.heap.size gs w4 w4.drew) := ⟨Sc.of (bdrew (Below.refl _ _)) (Nat.le_refl _) (Nat.le_of_lt GS4.out)⟩
   have S0 : Aside0 (Blk w4.drew gs #[.int .i64 size, .bool true] 116) := ⟨SB4.out.drew⟩
   generalize hwd : w4.drew = w1' at *
   clear hwd
   refine inv_at [0, 1, 2, 3, 4, 5, 6, 7, 8, 9, 10, 11, 12, 13, 14, 15] (fun a0_ b a w' => ∃ (va : Option Addr) (cv : Nat) (g6 : Nat) (m4_ : Value) (m13_ : Value) (m14_ : Value), a = putSel a0_ b [(0, 16, .pointer (some ⟨g2, 1, none⟩)), (1, 17, .slice A2 an.length c2), (2, 18, .pointer (some ⟨gs, 0, none⟩)), (3, 19, .func (.func 55) #[.pointer (some ⟨gs, 0, none⟩)] #[]), (4, 20, m4_), (5, 21, .pointer (some ⟨gs, 0, none⟩)), (6, 22, .pointer (some ⟨g2, 2, none⟩)), (7, 23, .agg #[.int .i64 xa, .int .i64 xb, .int .i64 xc]), (8, 24, .agg #[.int .i64 xa, .int .i64 m1, .int .i64 m2]), (9, 25, .pointer (some ⟨gs, 0, none⟩)), (10, 26, .pointer (some ⟨g2, 5, none⟩)), (11, 27, .int .i64 av), (12, 28, .int .i64 m3), (13, 29, m13_), (14, 6, m14_)] ∧ (Sc w4.heap.size gs w4 w') ∧ (b 4 = false → Blk w' gs #[.int .i64 size, .bool true] 116) ∧ (b 4 = true → b 8 = false → Blk w' gs #[.int .i64 size, .bool b1] 116) ∧ (b 8 = true → b 12 = false → Blk w' gs #[.int .i64 size, .bool b2] 116) ∧ (b 12 = true → Blk w' gs #[.int .i64 size, .bool b3] 116) ∧ (b 4 = true → Kd.R kI3 25 w' w4.heap.size (fun _ => True) (.slice va an.length cv) (an.map (mapAF size))) ∧ (b 14 = true → b 15 = false → w4.heap.size ≤ g6 ∧ Blk w' g6 #[.slice none 0 0, .slice none 0 0, .int .i64 0, .int .i64 0, .int .i64 0, .int .i64 0] 51) ∧ (b 15 = true → w4.heap.size ≤ g6 ∧ Blk w' g6 #[.slice none 0 0, .slice va an.length cv, .int .i64 xa, .int .i64 m1, .int .i64 m2, .int .i64 m3] 51) ∧ (b 4 = true → (m4_ : Value) = .slice va an.length cv) ∧ (b 13 = true → (m13_ : Value) = .agg #[.slice none 0 0, .slice va an.length cv, .int .i64 xa, .int .i64 m1, .int .i64 m2, .int .i64 m3]) ∧ (b 14 = true → (m14_ : Value) = .pointer (some ⟨g6, 0, none⟩))) HT_.out HW_.out (by kernel_rfl) (by kernel_rfl) ?_ ?_ ?_
   ·exact ⟨none, 0, 0, .bool false, .bool false, .bool false, by simp only [putSel, Bool.false_eq_true, if_false], HB.out, fun _ => S0.out, fun h_ => absurd h_ (by decide), fun h_ => absurd h_ (by decide), fun h_ => absurd h_ (by decide), fun h_ => absurd h_ (by decide), fun h_ => absurd h_ (by decide), fun h_ => absurd h_ (by decide), fun h_ => absurd h_ (by decide), fun h_ => absurd h_ (by decide), fun h_ => absurd h_ (by decide)⟩
   ·skip
    clear HB S0
    refine steps_cons ?_ ?_
    ·rintro b a w' ⟨va, cv, g6, m4_, m13_, m14_, ha, QHB, QS0, QS1, QS2, QS3, QVR, QOB, QOF, QX4_, QX13_, QX14_⟩ hb_ hon hoff
     refine ⟨_, rfl, fun K hK => ?_⟩
     have e2 : a.tmps[2]? = some (.pointer (some ⟨g2, 0, none⟩)) := by rw [ha]; exact (putSel_off rfl).trans rfl
     replace ha := aM_ ha
     have HB := aM_ QHB
     have S0 := aM_ (QS0 (hoff 4 rfl))
     refine value_ (w1 := w') (v := .pointer (some ⟨g2, 1, none⟩)) (by rfl) rfl ?_ ?_
     ·go_simp
      (try simp only [i64_w])
      try rfl
     refine hK.out _ _ ⟨va, cv, g6, m4_, m13_, m14_, (by rw [ha.out]; exact putSel_upk 0 hb_ rfl rfl rfl), QHB, QS0, dD_ (hoff 4 rfl), dD_ (hoff 8 rfl), dD_ (hoff 12 rfl), dD_ (hoff 4 rfl), QOB, dD_ (hoff 15 rfl), dD_ (hoff 4 rfl), dD_ (hoff 13 rfl), QX14_⟩
    refine steps_cons ?_ ?_
    ·rintro b a w' ⟨va, cv, g6, m4_, m13_, m14_, ha, QHB, QS0, QS1, QS2, QS3, QVR, QOB, QOF, QX4_, QX13_, QX14_⟩ hb_ hon hoff
     refine ⟨_, rfl, fun K hK => ?_⟩
     have e16 : a.tmps[16]? = some (.pointer (some ⟨g2, 1, none⟩)) := by rw [ha]; exact putSel_on (e := (0, 16, .pointer (some ⟨g2, 1, none⟩))) 0 rfl rfl (hon 0 rfl) rfl
     replace ha := aM_ ha
     have HB := aM_ QHB
     have S0 := aM_ (QS0 (hoff 4 rfl))
     have z1 := (HB.out.blk D4.out D4.out.lt ND.out).cell 1
     simp only [gA_, gZ_, gS_] at z1
     refine value_ (w1 := w') (v := .slice A2 an.length c2) (by rfl) rfl ?_ ?_
     ·go_simp
      (try simp only [i64_w])
      try rfl
     refine hK.out _ _ ⟨va, cv, g6, m4_, m13_, m14_, (by rw [ha.out]; exact putSel_upk 1 hb_ rfl rfl rfl), QHB, QS0, dD_ (hoff 4 rfl), dD_ (hoff 8 rfl), dD_ (hoff 12 rfl), dD_ (hoff 4 rfl), QOB, dD_ (hoff 15 rfl), dD_ (hoff 4 rfl), dD_ (hoff 13 rfl), QX14_⟩
    refine steps_cons ?_ ?_
    ·rintro b a w' ⟨va, cv, g6, m4_, m13_, m14_, ha, QHB, QS0, QS1, QS2, QS3, QVR, QOB, QOF, QX4_, QX13_, QX14_⟩ hb_ hon hoff
     refine ⟨_, rfl, fun K hK => ?_⟩
     have e5 : a.tmps[5]? = some (.pointer (some ⟨g5, 0, none⟩)) := by rw [ha]; exact (putSel_off rfl).trans rfl
     replace ha := aM_ ha
     have HB := aM_ QHB
     have S0 := aM_ (QS0 (hoff 4 rfl))
     have z := (HB.out.blk G5.out G5.out.lt NG5.out).cell 0
     simp only [gA_, gZ_, gS_] at z
     refine value_ (w1 := w') (v := .pointer (some ⟨gs, 0, none⟩)) (by rfl) rfl ?_ ?_
     ·go_simp
      (try simp only [i64_w])
      try rfl
     refine hK.out _ _ ⟨va, cv, g6, m4_, m13_, m14_, (by rw [ha.out]; exact putSel_upk 2 hb_ rfl rfl rfl), QHB, QS0, dD_ (hoff 4 rfl), dD_ (hoff 8 rfl), dD_ (hoff 12 rfl), dD_ (hoff 4 rfl), QOB, dD_ (hoff 15 rfl), dD_ (hoff 4 rfl), dD_ (hoff 13 rfl), QX14_⟩
    refine steps_cons ?_ ?_
    ·rintro b a w' ⟨va, cv, g6, m4_, m13_, m14_, ha, QHB, QS0, QS1, QS2, QS3, QVR, QOB, QOF, QX4_, QX13_, QX14_⟩ hb_ hon hoff
     refine ⟨_, rfl, fun K hK => ?_⟩
     have e18 : a.tmps[18]? = some (.pointer (some ⟨gs, 0, none⟩)) := by rw [ha]; exact putSel_on (e := (2, 18, .pointer (some ⟨gs, 0, none⟩))) 2 rfl rfl (hon 2 rfl) rfl
     replace ha := aM_ ha
     have HB := aM_ QHB
     have S0 := aM_ (QS0 (hoff 4 rfl))
     refine value_ (w1 := w') (v := .func (.func 55) #[.pointer (some ⟨gs, 0, none⟩)] #[]) (by rfl) rfl ?_ ?_
     ·go_simp
      (try simp only [i64_w])
      try rfl
     refine hK.out _ _ ⟨va, cv, g6, m4_, m13_, m14_, (by rw [ha.out]; exact putSel_upk 3 hb_ rfl rfl rfl), QHB, QS0, dD_ (hoff 4 rfl), dD_ (hoff 8 rfl), dD_ (hoff 12 rfl), dD_ (hoff 4 rfl), QOB, dD_ (hoff 15 rfl), dD_ (hoff 4 rfl), dD_ (hoff 13 rfl), QX14_⟩
    refine steps_cons ?_ ?_
    ·rintro b a w' ⟨va, cv, g6, m4_, m13_, m14_, ha, QHB, QS0, QS1, QS2, QS3, QVR, QOB, QOF, QX4_, QX13_, QX14_⟩ hb_ hon hoff
     refine ⟨_, rfl, fun K hK => ?_⟩
     have e17 : a.tmps[17]? = some (.slice A2 an.length c2) := by rw [ha]; exact putSel_on (e := (1, 17, .slice A2 an.length c2)) 1 rfl rfl (hon 1 rfl) rfl
     have e19 : a.tmps[19]? = some (.func (.func 55) #[.pointer (some ⟨gs, 0, none⟩)] #[]) := by rw [ha]; exact putSel_on (e := (3, 19, .func (.func 55) #[.pointer (some ⟨gs, 0, none⟩)] #[])) 3 rfl rfl (hon 3 rfl) rfl
     replace ha := aM_ ha
     have HB := aM_ QHB
     have S0 := aM_ (QS0 hb_)
     refine call_ 54 #[.slice A2 an.length c2, .func (.func 55) #[.pointer (some ⟨gs, 0, none⟩)] #[]] (by rfl) rfl ?_ ?_
     ·go_simp
     refine (mapA_any an A2 c2 size true gs w w' HAL.out HWS.out (HJ.out w' HB.out) HCA.out S0.out).mono ?_
     rintro e w2' ⟨V, rfl, hR, hs, hbk⟩
     obtain ⟨va', cv', rfl⟩ := Kd.R_slice hR
     rw [List.length_map] at hR ⊢
     rw [Q1.out] at hbk
     refine ⟨_, rfl, ?_⟩
     refine hK.out _ _ ⟨va', cv', g6, (.slice va' an.length cv'), m13_, m14_, (by rw [ha.out]; exact putSel_upk 4 hb_ rfl rfl rfl), HB.out.trans (hs.mono HB.out.size), dE_ (up_self b 4), fun _ _ => hbk, dD_ (hoff 8 rfl), dD_ (hoff 12 rfl), fun _ => Kd.R_lower hR HB.out.size, fun h0_ h1_ => ⟨(QOB h0_ h1_).1, hs.blk (QOB h0_ h1_).2 (QOB h0_ h1_).2.lt (by have := (QOB h0_ h1_).1; have := GS4.out; omega)⟩, dD_ (hoff 15 rfl), fun _ => rfl, dD_ (hoff 13 rfl), QX14_⟩
    refine steps_cons ?_ ?_
    ·rintro b a w' ⟨va, cv, g6, m4_, m13_, m14_, ha, QHB, QS0, QS1, QS2, QS3, QVR, QOB, QOF, QX4_, QX13_, QX14_⟩ hb_ hon hoff
     refine ⟨_, rfl, fun K hK => ?_⟩
     have e5 : a.tmps[5]? = some (.pointer (some ⟨g5, 0, none⟩)) := by rw [ha]; exact (putSel_off rfl).trans rfl
     replace ha := aM_ ha
     have HB := aM_ QHB
     have z := (HB.out.blk G5.out G5.out.lt NG5.out).cell 0
     simp only [gA_, gZ_, gS_] at z
     refine value_ (w1 := w') (v := .pointer (some ⟨gs, 0, none⟩)) (by rfl) rfl ?_ ?_
     ·go_simp
      (try simp only [i64_w])
      try rfl
     refine hK.out _ _ ⟨va, cv, g6, m4_, m13_, m14_, (by rw [ha.out]; exact putSel_upk 5 hb_ rfl rfl rfl), QHB, QS0, QS1, dD_ (hoff 8 rfl), dD_ (hoff 12 rfl), QVR, QOB, dD_ (hoff 15 rfl), QX4_, dD_ (hoff 13 rfl), QX14_⟩
    refine steps_cons ?_ ?_
    ·rintro b a w' ⟨va, cv, g6, m4_, m13_, m14_, ha, QHB, QS0, QS1, QS2, QS3, QVR, QOB, QOF, QX4_, QX13_, QX14_⟩ hb_ hon hoff
     refine ⟨_, rfl, fun K hK => ?_⟩
     have e2 : a.tmps[2]? = some (.pointer (some ⟨g2, 0, none⟩)) := by rw [ha]; exact (putSel_off rfl).trans rfl
     replace ha := aM_ ha
     have HB := aM_ QHB
     refine value_ (w1 := w') (v := .pointer (some ⟨g2, 2, none⟩)) (by rfl) rfl ?_ ?_
     ·go_simp
      (try simp only [i64_w])
      try rfl
     refine hK.out _ _ ⟨va, cv, g6, m4_, m13_, m14_, (by rw [ha.out]; exact putSel_upk 6 hb_ rfl rfl rfl), QHB, QS0, QS1, dD_ (hoff 8 rfl), dD_ (hoff 12 rfl), QVR, QOB, dD_ (hoff 15 rfl), QX4_, dD_ (hoff 13 rfl), QX14_⟩
    refine steps_cons ?_ ?_
    ·rintro b a w' ⟨va, cv, g6, m4_, m13_, m14_, ha, QHB, QS0, QS1, QS2, QS3, QVR, QOB, QOF, QX4_, QX13_, QX14_⟩ hb_ hon hoff
     refine ⟨_, rfl, fun K hK => ?_⟩
     have e22 : a.tmps[22]? = some (.pointer (some ⟨g2, 2, none⟩)) := by rw [ha]; exact putSel_on (e := (6, 22, .pointer (some ⟨g2, 2, none⟩))) 6 rfl rfl (hon 6 rfl) rfl
     replace ha := aM_ ha
     have HB := aM_ QHB
     have z2 := (HB.out.blk D4.out D4.out.lt ND.out).cell 2
     have z3 := (HB.out.blk D4.out D4.out.lt ND.out).cell 3
     have z4 := (HB.out.blk D4.out D4.out.lt ND.out).cell 4
     simp only [gA_, gZ_, gS_] at z2 z3 z4
     refine value_ (w1 := w') (v := .agg #[.int .i64 xa, .int .i64 xb, .int .i64 xc]) (by rfl) rfl ?_ ?_
     ·go_simp
      (try simp only [i64_w])
      try rfl
     refine hK.out _ _ ⟨va, cv, g6, m4_, m13_, m14_, (by rw [ha.out]; exact putSel_upk 7 hb_ rfl rfl rfl), QHB, QS0, QS1, dD_ (hoff 8 rfl), dD_ (hoff 12 rfl), QVR, QOB, dD_ (hoff 15 rfl), QX4_, dD_ (hoff 13 rfl), QX14_⟩
    refine steps_cons ?_ ?_
    ·rintro b a w' ⟨va, cv, g6, m4_, m13_, m14_, ha, QHB, QS0, QS1, QS2, QS3, QVR, QOB, QOF, QX4_, QX13_, QX14_⟩ hb_ hon hoff
     refine ⟨_, rfl, fun K hK => ?_⟩
     have e21 : a.tmps[21]? = some (.pointer (some ⟨gs, 0, none⟩)) := by rw [ha]; exact putSel_on (e := (5, 21, .pointer (some ⟨gs, 0, none⟩))) 5 rfl rfl (hon 5 rfl) rfl
     have e23 : a.tmps[23]? = some (.agg #[.int .i64 xa, .int .i64 xb, .int .i64 xc]) := by rw [ha]; exact putSel_on (e := (7, 23, .agg #[.int .i64 xa, .int .i64 xb, .int .i64 xc])) 7 rfl rfl (hon 7 rfl) rfl
     replace ha := aM_ ha
     have HB := aM_ QHB
     have S1 := aM_ (QS1 (hon 4 rfl) hb_)
     have VR := aM_ (QVR (hon 4 rfl))
     refine call_ 55 #[.pointer (some ⟨gs, 0, none⟩), .agg #[.int .i64 xa, .int .i64 xb, .int .i64 xc]] (by rfl) rfl ?_ ?_
     ·go_simp
     refine (oAch_any xa xb xc size b1 gs w' S1.out).mono ?_
     rintro e w2' ⟨rfl, hs, hbk⟩
     rw [M1.out, M2.out]
     rw [Q2.out] at hbk
     refine ⟨_, rfl, ?_⟩
     refine hK.out _ _ ⟨va, cv, g6, m4_, m13_, m14_, (by rw [ha.out]; exact putSel_upk 8 hb_ rfl rfl rfl), HB.out.trans (hs.mono HB.out.size), fun h0_ => absurd ((hon 4 rfl).symm.trans h0_) (by decide), fun _ => dE_ (up_self b 8), fun _ _ => hbk, dD_ (hoff 12 rfl), fun _ => Sc.R VR.out S1.out (by decide) hs, fun h0_ h1_ => ⟨(QOB h0_ h1_).1, hs.blk (QOB h0_ h1_).2 (QOB h0_ h1_).2.lt (by have := (QOB h0_ h1_).1; have := GS4.out; omega)⟩, dD_ (hoff 15 rfl), QX4_, dD_ (hoff 13 rfl), QX14_⟩
    refine steps_cons ?_ ?_
    ·rintro b a w' ⟨va, cv, g6, m4_, m13_, m14_, ha, QHB, QS0, QS1, QS2, QS3, QVR, QOB, QOF, QX4_, QX13_, QX14_⟩ hb_ hon hoff
     refine ⟨_, rfl, fun K hK => ?_⟩
     have e5 : a.tmps[5]? = some (.pointer (some ⟨g5, 0, none⟩)) := by rw [ha]; exact (putSel_off rfl).trans rfl
     replace ha := aM_ ha
     have HB := aM_ QHB
     have z := (HB.out.blk G5.out G5.out.lt NG5.out).cell 0
     simp only [gA_, gZ_, gS_] at z
     refine value_ (w1 := w') (v := .pointer (some ⟨gs, 0, none⟩)) (by rfl) rfl ?_ ?_
     ·go_simp
      (try simp only [i64_w])
      try rfl
     refine hK.out _ _ ⟨va, cv, g6, m4_, m13_, m14_, (by rw [ha.out]; exact putSel_upk 9 hb_ rfl rfl rfl), QHB, QS0, QS1, QS2, dD_ (hoff 12 rfl), QVR, QOB, dD_ (hoff 15 rfl), QX4_, dD_ (hoff 13 rfl), QX14_⟩
    refine steps_cons ?_ ?_
    ·rintro b a w' ⟨va, cv, g6, m4_, m13_, m14_, ha, QHB, QS0, QS1, QS2, QS3, QVR, QOB, QOF, QX4_, QX13_, QX14_⟩ hb_ hon hoff
     refine ⟨_, rfl, fun K hK => ?_⟩
     have e2 : a.tmps[2]? = some (.pointer (some ⟨g2, 0, none⟩)) := by rw [ha]; exact (putSel_off rfl).trans rfl
     replace ha := aM_ ha
     have HB := aM_ QHB
     refine value_ (w1 := w') (v := .pointer (some ⟨g2, 5, none⟩)) (by rfl) rfl ?_ ?_
     ·go_simp
      (try simp only [i64_w])
      try rfl
     refine hK.out _ _ ⟨va, cv, g6, m4_, m13_, m14_, (by rw [ha.out]; exact putSel_upk 10 hb_ rfl rfl rfl), QHB, QS0, QS1, QS2, dD_ (hoff 12 rfl), QVR, QOB, dD_ (hoff 15 rfl), QX4_, dD_ (hoff 13 rfl), QX14_⟩
    refine steps_cons ?_ ?_
    ·rintro b a w' ⟨va, cv, g6, m4_, m13_, m14_, ha, QHB, QS0, QS1, QS2, QS3, QVR, QOB, QOF, QX4_, QX13_, QX14_⟩ hb_ hon hoff
     refine ⟨_, rfl, fun K hK => ?_⟩
     have e26 : a.tmps[26]? = some (.pointer (some ⟨g2, 5, none⟩)) := by rw [ha]; exact putSel_on (e := (10, 26, .pointer (some ⟨g2, 5, none⟩))) 10 rfl rfl (hon 10 rfl) rfl
     replace ha := aM_ ha
     have HB := aM_ QHB
     have z5 := (HB.out.blk D4.out D4.out.lt ND.out).cell 5
     simp only [gA_, gZ_, gS_] at z5
     refine value_ (w1 := w') (v := .int .i64 av) (by rfl) rfl ?_ ?_
     ·go_simp
      (try simp only [i64_w])
      try rfl
     refine hK.out _ _ ⟨va, cv, g6, m4_, m13_, m14_, (by rw [ha.out]; exact putSel_upk 11 hb_ rfl rfl rfl), QHB, QS0, QS1, QS2, dD_ (hoff 12 rfl), QVR, QOB, dD_ (hoff 15 rfl), QX4_, dD_ (hoff 13 rfl), QX14_⟩
    refine steps_cons ?_ ?_
    ·rintro b a w' ⟨va, cv, g6, m4_, m13_, m14_, ha, QHB, QS0, QS1, QS2, QS3, QVR, QOB, QOF, QX4_, QX13_, QX14_⟩ hb_ hon hoff
     refine ⟨_, rfl, fun K hK => ?_⟩
     have e25 : a.tmps[25]? = some (.pointer (some ⟨gs, 0, none⟩)) := by rw [ha]; exact putSel_on (e := (9, 25, .pointer (some ⟨gs, 0, none⟩))) 9 rfl rfl (hon 9 rfl) rfl
     have e27 : a.tmps[27]? = some (.int .i64 av) := by rw [ha]; exact putSel_on (e := (11, 27, .int .i64 av)) 11 rfl rfl (hon 11 rfl) rfl
     replace ha := aM_ ha
     have HB := aM_ QHB
     have S2 := aM_ (QS2 (hon 8 rfl) hb_)
     have VR := aM_ (QVR (hon 4 rfl))
     refine call_ 56 #[.pointer (some ⟨gs, 0, none⟩), .int .i64 av] (by rfl) rfl ?_ ?_
     ·go_simp
     refine (number_any av size b2 gs w' S2.out).mono ?_
     rintro e w2' ⟨rfl, hs, hbk⟩
     rw [M3.out]
     rw [Q3.out] at hbk
     refine ⟨_, rfl, ?_⟩
     refine hK.out _ _ ⟨va, cv, g6, m4_, m13_, m14_, (by rw [ha.out]; exact putSel_upk 12 hb_ rfl rfl rfl), HB.out.trans (hs.mono HB.out.size), fun h0_ => absurd ((hon 4 rfl).symm.trans h0_) (by decide), fun _ => dE_ (hon 8 rfl), fun _ => dE_ (up_self b 12), fun _ => hbk, fun _ => Sc.R VR.out S2.out (by decide) hs, fun h0_ h1_ => ⟨(QOB h0_ h1_).1, hs.blk (QOB h0_ h1_).2 (QOB h0_ h1_).2.lt (by have := (QOB h0_ h1_).1; have := GS4.out; omega)⟩, dD_ (hoff 15 rfl), QX4_, dD_ (hoff 13 rfl), QX14_⟩
    refine steps_cons ?_ ?_
    ·rintro b a w' ⟨va, cv, g6, m4_, m13_, m14_, ha, QHB, QS0, QS1, QS2, QS3, QVR, QOB, QOF, QX4_, QX13_, QX14_⟩ hb_ hon hoff
     refine ⟨_, rfl, fun K hK => ?_⟩
     have e20 : a.tmps[20]? = some (m4_) := by rw [ha]; exact putSel_on (e := (4, 20, m4_)) 4 rfl rfl (hon 4 rfl) rfl
     rw [QX4_ (hon 4 rfl)] at e20
     have e24 : a.tmps[24]? = some (.agg #[.int .i64 xa, .int .i64 m1, .int .i64 m2]) := by rw [ha]; exact putSel_on (e := (8, 24, .agg #[.int .i64 xa, .int .i64 m1, .int .i64 m2])) 8 rfl rfl (hon 8 rfl) rfl
     have e28 : a.tmps[28]? = some (.int .i64 m3) := by rw [ha]; exact putSel_on (e := (12, 28, .int .i64 m3)) 12 rfl rfl (hon 12 rfl) rfl
     replace ha := aM_ ha
     have HB := aM_ QHB
     have S3 := aM_ (QS3 (hon 12 rfl))
     have VR := aM_ (QVR (hon 4 rfl))
     refine value_ (w1 := w') (v := .agg #[.slice none 0 0, .slice va an.length cv, .int .i64 xa, .int .i64 m1, .int .i64 m2, .int .i64 m3]) (by rfl) rfl ?_ ?_
     ·go_simp
      (try simp only [i64_w])
      try rfl
     refine hK.out _ _ ⟨va, cv, g6, m4_, (.agg #[.slice none 0 0, .slice va an.length cv, .int .i64 xa, .int .i64 m1, .int .i64 m2, .int .i64 m3]), m14_, (by rw [ha.out]; exact putSel_upk 13 hb_ rfl rfl rfl), QHB, fun h0_ => absurd ((hon 4 rfl).symm.trans h0_) (by decide), fun _ => dE_ (hon 8 rfl), fun _ => dE_ (hon 12 rfl), QS3, QVR, QOB, dD_ (hoff 15 rfl), QX4_, fun _ => rfl, QX14_⟩
    refine steps_cons ?_ ?_
    ·rintro b a w' ⟨va, cv, g6, m4_, m13_, m14_, ha, QHB, QS0, QS1, QS2, QS3, QVR, QOB, QOF, QX4_, QX13_, QX14_⟩ hb_ hon hoff
     refine ⟨_, rfl, fun K hK => ?_⟩
     replace ha := aM_ ha
     have HB := aM_ QHB
     refine value_ (w1 := w'.alloc (.cells #[.slice none 0 0, .slice none 0 0, .int .i64 0, .int .i64 0, .int .i64 0, .int .i64 0] 51)) (v := .pointer (some ⟨w'.heap.size, 0, none⟩)) (by rfl) rfl ?_ ?_
     ·go_simp
     refine hK.out _ _ ⟨va, cv, w'.heap.size, m4_, m13_, (.pointer (some ⟨w'.heap.size, 0, none⟩)), (by rw [ha.out]; exact putSel_upk 14 hb_ rfl rfl rfl), HB.out.step HB.out.size (Nat.le_trans (Nat.le_of_lt GS4.out) HB.out.size) (below_alloc (Below.refl _ w') _), fun h0_ => (QS0 h0_).alloc _, fun h0_ h1_ => (QS1 h0_ h1_).alloc _, fun h0_ h1_ => (QS2 h0_ h1_).alloc _, fun h0_ => (QS3 h0_).alloc _, fun h0_ => Kd.R_below (QVR h0_) (below_alloc (Below.refl _ w') _), fun _ _ => ⟨HB.out.size, Blk.new w' _ _ rfl⟩, dD_ (hoff 15 rfl), QX4_, QX13_, fun _ => rfl⟩
    refine steps_cons ?_ ?_
    ·rintro b a w' ⟨va, cv, g6, m4_, m13_, m14_, ha, QHB, QS0, QS1, QS2, QS3, QVR, QOB, QOF, QX4_, QX13_, QX14_⟩ hb_ hon hoff
     refine ⟨_, rfl, fun K hK => ?_⟩
     have e6 : a.tmps[6]? = some (m14_) := by rw [ha]; exact putSel_on (e := (14, 6, m14_)) 14 rfl rfl (hon 14 rfl) rfl
     rw [QX14_ (hon 14 rfl)] at e6
     have e29 : a.tmps[29]? = some (m13_) := by rw [ha]; exact putSel_on (e := (13, 29, m13_)) 13 rfl rfl (hon 13 rfl) rfl
     rw [QX13_ (hon 13 rfl)] at e29
     replace ha := aM_ ha
     have HB := aM_ QHB
     have S3 := aM_ (QS3 (hon 12 rfl))
     have VR := aM_ (QVR (hon 4 rfl))
     have OB := aM_ (QOB (hon 14 rfl) hb_)
     have c0 := OB.out.2.cell 0
     have c1 := OB.out.2.cell 1
     have c2 := OB.out.2.cell 2
     have c3 := OB.out.2.cell 3
     have c4 := OB.out.2.cell 4
     have c5 := OB.out.2.cell 5
     simp only [gA_, gZ_, gS_] at c0 c1 c2 c3 c4 c5
     have f0 := OB.out.2.frozen 0
     have f1 := OB.out.2.frozen 1
     have f2 := OB.out.2.frozen 2
     have f3 := OB.out.2.frozen 3
     have f4 := OB.out.2.frozen 4
     have f5 := OB.out.2.frozen 5
     refine skip_ (w1 := ((((((w'.setCell ⟨g6, 0, none⟩ (.slice none 0 0)).setCell ⟨g6, 1, none⟩ (.slice va an.length cv)).setCell ⟨g6, 2, none⟩ (.int .i64 xa)).setCell ⟨g6, 3, none⟩ (.int .i64 m1)).setCell ⟨g6, 4, none⟩ (.int .i64 m2)).setCell ⟨g6, 5, none⟩ (.int .i64 m3))) (by rfl) rfl ?_ ?_
     ·go_simp
     refine hK.out _ _ ⟨va, cv, g6, m4_, m13_, m14_, (by rw [ha.out]; exact putSel_none (v := undef) rfl), ((((((HB.out.trans (Sc.setN _ OB.out.1 (by have := OB.out.1; have := GS4.out; omega) 0 _)).trans (Sc.setN _ OB.out.1 (by have := OB.out.1; have := GS4.out; omega) 1 _)).trans (Sc.setN _ OB.out.1 (by have := OB.out.1; have := GS4.out; omega) 2 _)).trans (Sc.setN _ OB.out.1 (by have := OB.out.1; have := GS4.out; omega) 3 _)).trans (Sc.setN _ OB.out.1 (by have := OB.out.1; have := GS4.out; omega) 4 _)).trans (Sc.setN _ OB.out.1 (by have := OB.out.1; have := GS4.out; omega) 5 _)), fun h0_ => absurd ((hon 4 rfl).symm.trans h0_) (by decide), fun _ => dE_ (hon 8 rfl), fun _ => dE_ (hon 12 rfl), fun _ => ((((((S3.out.far (by have := OB.out.1; have := GS4.out; omega) 0 _).far (by have := OB.out.1; have := GS4.out; omega) 1 _).far (by have := OB.out.1; have := GS4.out; omega) 2 _).far (by have := OB.out.1; have := GS4.out; omega) 3 _).far (by have := OB.out.1; have := GS4.out; omega) 4 _).far (by have := OB.out.1; have := GS4.out; omega) 5 _), fun _ => R_put6 VR.out OB.out.2 (by decide) _ _ _ _ _ _, fun _ => dE_ (up_self b 15), fun _ => ⟨OB.out.1, ((((((OB.out.2.put 0 _ rfl).put 1 _ rfl).put 2 _ rfl).put 3 _ rfl).put 4 _ rfl).put 5 _ rfl)⟩, QX4_, QX13_, QX14_⟩
    exact steps_nil
   ·rintro b a w' hall ⟨va, cv, g6, m4_, m13_, m14_, ha, QHB, QS0, QS1, QS2, QS3, QVR, QOB, QOF, QX4_, QX13_, QX14_⟩
    clear HB S0
    have hb0_ := hall 0 (by kernel_rfl)
    have hb1_ := hall 1 (by kernel_rfl)
    have hb2_ := hall 2 (by kernel_rfl)
    have hb3_ := hall 3 (by kernel_rfl)
    have hb4_ := hall 4 (by kernel_rfl)
    have hb5_ := hall 5 (by kernel_rfl)
    have hb6_ := hall 6 (by kernel_rfl)
    have hb7_ := hall 7 (by kernel_rfl)
    have hb8_ := hall 8 (by kernel_rfl)
    have hb9_ := hall 9 (by kernel_rfl)
    have hb10_ := hall 10 (by kernel_rfl)
    have hb11_ := hall 11 (by kernel_rfl)
    have hb12_ := hall 12 (by kernel_rfl)
    have hb13_ := hall 13 (by kernel_rfl)
    have hb14_ := hall 14 (by kernel_rfl)
    have hb15_ := hall 15 (by kernel_rfl)
    subst ha
    obtain rfl := QX4_ hb4_
    obtain rfl := QX13_ hb13_
    obtain rfl := QX14_ hb14_
    simp only [putSel, hb0_, hb1_, hb2_, hb3_, hb4_, hb5_, hb6_, hb7_, hb8_, hb9_, hb10_, hb11_, hb12_, hb13_, hb14_, hb15_, if_true, Act.put, List.setIfInBounds_toArray, List.set_cons_zero, List.set_cons_succ]
    have HB := aM_ QHB
    clear QHB
    clear QS0
    clear QS1
    clear QS2
    have S3 := aM_ (QS3 hb12_)
    clear QS3
    have VR := aM_ (QVR hb4_)
    clear QVR
    clear QOB
    have OF := aM_ (QOF hb15_)
    clear QOF
    clear hall hb0_ hb1_ hb2_ hb3_ hb4_ hb5_ hb6_ hb7_ hb8_ hb9_ hb10_ hb11_ hb12_ hb13_ hb14_ hb15_
    have OFB := lH_ OF.out.2
    have OFL := lH_ OF.out.1
    have z0 := (HB.out.blk D4.out D4.out.lt ND.out).cell 0
    have o0 := OFB.out.cell 0
    have f0 := OFB.out.frozen 0
    simp only [gA_, gZ_, gS_] at z0 o0
    go_wp2_with fail
    refine (mapC_any ct A1 c1 size b3 gs g5 w w' HCL.out HCP.out HWS.out (HJ.out w' HB.out) HCT.out S3.out (HB.out.blk G5.out G5.out.lt NG5.out) NG5.out).mono ?_
    rintro e w5 ⟨V, rfl, hR, hs, hbk⟩
    obtain ⟨vb, cb, rfl⟩ := Kd.R_slice hR
    rw [List.length_map] at hR ⊢
    have HB5 := HB.out.trans (hs.mono HB.out.size)
    have OF5 := hs.blk OFB.out OFB.out.lt (by have := OFL.out; have := GS4.out; omega)
    have VR5 := Sc.R VR.out S3.out (by decide) hs
    clear z0 o0 f0
    have o0 := OF5.cell 0
    have f0 := OF5.frozen 0
    simp only [gA_, gZ_, gS_] at o0
    go_upto_region 4 with fail
    have OF6 : Hid (Blk _ g6 #[.slice vb ct.length cb, .slice va an.length cv, .int .i64 xa, .int .i64 m1, .int .i64 m2, .int .i64 m3] 51) := lH_ (OF5.put 0 (.slice vb ct.length cb) rfl)
    have HB6 := lH_ (HB5.trans (Sc.setN w5 OFL.out (by have := OFL.out; have := GS4.out; omega) 0 (.slice vb ct.length cb)))
    have K6 := lH_ (hbk.far (g' := g6) (show gs ≠ g6 by have := OFL.out; have := GS4.out; omega) 0 (.slice vb ct.length cb))
    have VR6 := lH_ (Kd.R_set VR5 OF5 (by decide) 0 (.slice vb ct.length cb))
    have CR6 := lH_ (Kd.R_lower (Kd.R_set hR OF5 (by decide) 0 (.slice vb ct.length cb)) HB.out.size)
    clear o0 f0 HB5 OF5 VR5 hbk hR hs
    generalize World.setCell _ _ _ = w6 at *
    obtain ⟨b4, q4⟩ : ∃ v, (b3 || ct.any (mapCW size)) = v := ⟨_, rfl⟩
    rw [q4] at K6
    have Q4 := lH_ q4
    clear q4
    have z0 := (HB6.out.blk G5.out G5.out.lt NG5.out).cell 0
    have k1 := K6.out.cell 1
    simp only [gA_, gZ_, gS_] at z0 k1
    have HSW : Hid (scW size an xb xc av ct = b4) := lH_ (by unfold scW; rw [HWT.out, Q1.out, Q2.out, Q3.out, Q4.out])
    have HBZ := HJ.out w6 HB6.out
    have Z6 := lH_ (HB6.out.blk Z4.out Z4.out.lt NZ.out)
    cases b4
    ·have y0 := Z6.out.cell 0
     have y1 := Z6.out.cell 1
     have y2 := Z6.out.cell 2
     have y3 := Z6.out.cell 3
     have y4 := Z6.out.cell 4
     have y5 := Z6.out.cell 5
     have f0 := Z6.out.frozen 0
     have f1 := Z6.out.frozen 1
     have f2 := Z6.out.frozen 2
     have f3 := Z6.out.frozen 3
     have f4 := Z6.out.frozen 4
     have f5 := Z6.out.frozen 5
     simp only [gA_, gZ_, gS_] at y0 y1 y2 y3 y4 y5
     have o0 := OF6.out.cell 0
     have o1 := OF6.out.cell 1
     have o2 := OF6.out.cell 2
     have o3 := OF6.out.cell 3
     have o4 := OF6.out.cell 4
     have o5 := OF6.out.cell 5
     simp only [gA_, gZ_, gS_] at o0 o1 o2 o3 o4 o5
     go_wp2_with fail
     refine bodyPost_ret (res_c (g := g4) rfl _ _ _ _ _ rfl ((((((Z6.out.put 0 _ rfl).put 1 _ rfl).put 2 _ rfl).put 3 _ rfl).put 4 _ rfl).put 5 _ rfl) rfl Try.underlying51 (by kernel_rfl)) rfl ⟨(bset (bset (bset (bset (bset (bset HBZ GZ4.out 0 _) GZ4.out 1 _) GZ4.out 2 _) GZ4.out 3 _) GZ4.out 4 _) GZ4.out 5 _), .inr ⟨HSW.out, vb, cb, va, cv, by rw [M1.out, M2.out, M3.out]; rfl, Kd.R_lower (R_put6 CR6.out Z6.out (by decide) _ _ _ _ _ _) HX5.out.size, Kd.R_lower (R_put6 VR6.out Z6.out (by decide) _ _ _ _ _ _) HX5.out.size⟩⟩
    ·have y0 := Z6.out.cell 0
     have y1 := Z6.out.cell 1
     have y2 := Z6.out.cell 2
     have y3 := Z6.out.cell 3
     have y4 := Z6.out.cell 4
     have y5 := Z6.out.cell 5
     have f0 := Z6.out.frozen 0
     have f1 := Z6.out.frozen 1
     have f2 := Z6.out.frozen 2
     have f3 := Z6.out.frozen 3
     have f4 := Z6.out.frozen 4
     have f5 := Z6.out.frozen 5
     simp only [gA_, gZ_, gS_] at y0 y1 y2 y3 y4 y5
     go_wp2_with fail
     refine bodyPost_ret (res_c (g := g4) rfl _ _ _ _ _ rfl ((((((Z6.out.put 0 _ rfl).put 1 _ rfl).put 2 _ rfl).put 3 _ rfl).put 4 _ rfl).put 5 _ rfl) rfl Try.underlying51 (by kernel_rfl)) rfl ⟨(bset (bset (bset (bset (bset (bset HBZ GZ4.out 0 _) GZ4.out 1 _) GZ4.out 2 _) GZ4.out 3 _) GZ4.out 4 _) GZ4.out 5 _), .inl ⟨HSW.out, rfl⟩⟩
  ·have d2 : decide (32 < size) = false := decide_eq_false h2
   have HWT : Hid (swB size = false) := lH_ (by unfold swB; rw [d1, d2]; rfl)
   go_upto_region 2 with fail
   obtain ⟨w3, gs, hw, hg, SB, HX3, _⟩ := new_box w2 #[.int .i64 size, .bool false] 116
   rw [hw, hg]
   obtain ⟨w4, g5, hw4, hg4, G5, HX4, _⟩ := new_box w3 #[.pointer (some ⟨gs, 0, none⟩)] 114
   have e6 : gs + 1 = g5 := by rw [← hg4, ← hw, ← hg]; simp
   rw [hw4, e6]
   have ND := lH_ (show g2 ≠ gs by have := D2.out.lt; omega)
   have NZ := lH_ (show g4 ≠ gs by have := ZB.out.lt; omega)
   have NG5 := lH_ (show g5 ≠ gs by omega)
   have HWS := lH_ (show w.heap.size ≤ gs by have := HXX.out.size; omega)
   clear hw hg hw4 hg4 e6
   have SB4 := lH_ (SB.out.below HX4.out)
   have GS4 := lH_ SB4.out.lt
   have HX34 := lH_ (bthen' HX3.out HX4.out)
   have D4 := lH_ (D2.out.below HX34.out)
   have Z4 := lH_ (ZB.out.below HX34.out)
   have HX5 := lH_ (bthen' HXX.out HX34.out)
   have HJ := lH_ (fun v (h : Sc w4.heap.size gs w4 v) => (show Below w.heap.size w v from HX5.out.trans (h.below.mono HWS.out)))
   obtain ⟨m1, hm1⟩ : ∃ v, mulQ xb size = v := ⟨_, rfl⟩
   obtain ⟨m2, hm2⟩ : ∃ v, mulQ xc size = v := ⟨_, rfl⟩
   obtain ⟨m3, hm3⟩ : ∃ v, mulQ av size = v := ⟨_, rfl⟩
   obtain ⟨b1, q1⟩ : ∃ v, (false || an.any (mapAW size)) = v := ⟨_, rfl⟩
   obtain ⟨b2, q2⟩ : ∃ v, ((b1 || !mulOk xb size) || !mulOk xc size) = v := ⟨_, rfl⟩
   obtain ⟨b3, q3⟩ : ∃ v, (b2 || !mulOk av size) = v := ⟨_, rfl⟩
   have M1 := lH_ hm1
   have M2 := lH_ hm2
   have M3 := lH_ hm3
   have Q1 := lH_ q1
   have Q2 := lH_ q2
   have Q3 := lH_ q3
   clear hm1 hm2 hm3 q1 q2 q3
   refine start_ (n := 16) (S := fun w' => True) (ds := []) #[false, false, false, false, false, false, false, false, false, false, false, false, false, false, false, false] (by kernel_rfl) rfl rfl trivial (fun hHeld => ?_)
   refine with_tabW oScale.tab2 oScale.bits2 (fun HT_ HW_ => ?_)
   have HB : Aside0 (Sc w4.heap.size gs w4 w4.drew) := ⟨Sc.of (bdrew (Below.refl _ _)) (Nat.le_refl _) (Nat.le_of_lt GS4.out)⟩
   have S0 : Aside0 (Blk w4.drew gs #[.int .i64 size, .bool false] 116) := ⟨SB4.out.drew⟩
   generalize hwd : w4.drew = w1' at *
   clear hwd
   refine inv_at [0, 1, 2, 3, 4, 5, 6, 7, 8, 9, 10, 11, 12, 13, 14, 15] (fun a0_ b a w' => ∃ (va : Option Addr) (cv : Nat) (g6 : Nat) (m4_ : Value) (m13_ : Value) (m14_ : Value), a = putSel a0_ b [(0, 16, .pointer (some ⟨g2, 1, none⟩)), (1, 17, .slice A2 an.length c2), (2, 18, .pointer (some ⟨gs, 0, none⟩)), (3, 19, .func (.func 55) #[.pointer (some ⟨gs, 0, none⟩)] #[]), (4, 20, m4_), (5, 21, .pointer (some ⟨gs, 0, none⟩)), (6, 22, .pointer (some ⟨g2, 2, none⟩)), (7, 23, .agg #[.int .i64 xa, .int .i64 xb, .int .i64 xc]), (8, 24, .agg #[.int .i64 xa, .int .i64 m1, .int .i64 m2]), (9, 25, .pointer (some ⟨gs, 0, none⟩)), (10, 26, .pointer (some ⟨g2, 5, none⟩)), (11, 27, .int .i64 av), (12, 28, .int .i64 m3), (13, 29, m13_), (14, 6, m14_)] ∧ (Sc w4.heap.size gs w4 w') ∧ (b 4 = false → Blk w' gs #[.int .i64 size, .bool false] 116) ∧ (b 4 = true → b 8 = false → Blk w' gs #[.int .i64 size, .bool b1] 116) ∧ (b 8 = true → b 12 = false → Blk w' gs #[.int .i64 size, .bool b2] 116) ∧ (b 12 = true → Blk w' gs #[.int .i64 size, .bool b3] 116) ∧ (b 4 = true → Kd.R kI3 25 w' w4.heap.size (fun _ => True) (.slice va an.length cv) (an.map (mapAF size))) ∧ (b 14 = true → b 15 = false → w4.heap.size ≤ g6 ∧ Blk w' g6 #[.slice none 0 0, .slice none 0 0, .int .i64 0, .int .i64 0, .int .i64 0, .int .i64 0] 51) ∧ (b 15 = true → w4.heap.size ≤ g6 ∧ Blk w' g6 #[.slice none 0 0, .slice va an.length cv, .int .i64 xa, .int .i64 m1, .int .i64 m2, .int .i64 m3] 51) ∧ (b 4 = true → (m4_ : Value) = .slice va an.length cv) ∧ (b 13 = true → (m13_ : Value) = .agg #[.slice none 0 0, .slice va an.length cv, .int .i64 xa, .int .i64 m1, .int .i64 m2, .int .i64 m3]) ∧ (b 14 = true → (m14_ : Value) = .pointer (some ⟨g6, 0, none⟩))) HT_.out HW_.out (by kernel_rfl) (by kernel_rfl) ?_ ?_ ?_
   ·exact ⟨none, 0, 0, .bool false, .bool false, .bool false, by simp only [putSel, Bool.false_eq_true, if_false], HB.out, fun _ => S0.out, fun h_ => absurd h_ (by decide), fun h_ => absurd h_ (by decide), fun h_ => absurd h_ (by decide), fun h_ => absurd h_ (by decide), fun h_ => absurd h_ (by decide), fun h_ => absurd h_ (by decide), fun h_ => absurd h_ (by decide), fun h_ => absurd h_ (by decide), fun h_ => absurd h_ (by decide)⟩
   ·skip
    clear HB S0
    refine steps_cons ?_ ?_
    ·rintro b a w' ⟨va, cv, g6, m4_, m13_, m14_, ha, QHB, QS0, QS1, QS2, QS3, QVR, QOB, QOF, QX4_, QX13_, QX14_⟩ hb_ hon hoff
     refine ⟨_, rfl, fun K hK => ?_⟩
     have e2 : a.tmps[2]? = some (.pointer (some ⟨g2, 0, none⟩)) := by rw [ha]; exact (putSel_off rfl).trans rfl
     replace ha := aM_ ha
     have HB := aM_ QHB
     have S0 := aM_ (QS0 (hoff 4 rfl))
     refine value_ (w1 := w') (v := .pointer (some ⟨g2, 1, none⟩)) (by rfl) rfl ?_ ?_
     ·go_simp
      (try simp only [i64_w])
      try rfl
     refine hK.out _ _ ⟨va, cv, g6, m4_, m13_, m14_, (by rw [ha.out]; exact putSel_upk 0 hb_ rfl rfl rfl), QHB, QS0, dD_ (hoff 4 rfl), dD_ (hoff 8 rfl), dD_ (hoff 12 rfl), dD_ (hoff 4 rfl), QOB, dD_ (hoff 15 rfl), dD_ (hoff 4 rfl), dD_ (hoff 13 rfl), QX14_⟩
    refine steps_cons ?_ ?_
    ·rintro b a w' ⟨va, cv, g6, m4_, m13_, m14_, ha, QHB, QS0, QS1, QS2, QS3, QVR, QOB, QOF, QX4_, QX13_, QX14_⟩ hb_ hon hoff
     refine ⟨_, rfl, fun K hK => ?_⟩
     have e16 : a.tmps[16]? = some (.pointer (some ⟨g2, 1, none⟩)) := by rw [ha]; exact putSel_on (e := (0, 16, .pointer (some ⟨g2, 1, none⟩))) 0 rfl rfl (hon 0 rfl) rfl
     replace ha := aM_ ha
     have HB := aM_ QHB
     have S0 := aM_ (QS0 (hoff 4 rfl))
     have z1 := (HB.out.blk D4.out D4.out.lt ND.out).cell 1
     simp only [gA_, gZ_, gS_] at z1
     refine value_ (w1 := w') (v := .slice A2 an.length c2) (by rfl) rfl ?_ ?_
     ·go_simp
      (try simp only [i64_w])
      try rfl
     refine hK.out _ _ ⟨va, cv, g6, m4_, m13_, m14_, (by rw [ha.out]; exact putSel_upk 1 hb_ rfl rfl rfl), QHB, QS0, dD_ (hoff 4 rfl), dD_ (hoff 8 rfl), dD_ (hoff 12 rfl), dD_ (hoff 4 rfl), QOB, dD_ (hoff 15 rfl), dD_ (hoff 4 rfl), dD_ (hoff 13 rfl), QX14_⟩
    refine steps_cons ?_ ?_
    ·rintro b a w' ⟨va, cv, g6, m4_, m13_, m14_, ha, QHB, QS0, QS1, QS2, QS3, QVR, QOB, QOF, QX4_, QX13_, QX14_⟩ hb_ hon hoff
     refine ⟨_, rfl, fun K hK => ?_⟩
     have e5 : a.tmps[5]? = some (.pointer (some ⟨g5, 0, none⟩)) := by rw [ha]; exact (putSel_off rfl).trans rfl
     replace ha := aM_ ha
     have HB := aM_ QHB
     have S0 := aM_ (QS0 (hoff 4 rfl))
     have z := (HB.out.blk G5.out G5.out.lt NG5.out).cell 0
     simp only [gA_, gZ_, gS_] at z
     refine value_ (w1 := w') (v := .pointer (some ⟨gs, 0, none⟩)) (by rfl) rfl ?_ ?_
     ·go_simp
      (try simp only [i64_w])
      try rfl
     refine hK.out _ _ ⟨va, cv, g6, m4_, m13_, m14_, (by rw [ha.out]; exact putSel_upk 2 hb_ rfl rfl rfl), QHB, QS0, dD_ (hoff 4 rfl), dD_ (hoff 8 rfl), dD_ (hoff 12 rfl), dD_ (hoff 4 rfl), QOB, dD_ (hoff 15 rfl), dD_ (hoff 4 rfl), dD_ (hoff 13 rfl), QX14_⟩
    refine steps_cons ?_ ?_
    ·rintro b a w' ⟨va, cv, g6, m4_, m13_, m14_, ha, QHB, QS0, QS1, QS2, QS3, QVR, QOB, QOF, QX4_, QX13_, QX14_⟩ hb_ hon hoff
     refine ⟨_, rfl, fun K hK => ?_⟩
     have e18 : a.tmps[18]? = some (.pointer (some ⟨gs, 0, none⟩)) := by rw [ha]; exact putSel_on (e := (2, 18, .pointer (some ⟨gs, 0, none⟩))) 2 rfl rfl (hon 2 rfl) rfl
     replace ha := aM_ ha
     have HB := aM_ QHB
     have S0 := aM_ (QS0 (hoff 4 rfl))
     refine value_ (w1 := w') (v := .func (.func 55) #[.pointer (some ⟨gs, 0, none⟩)] #[]) (by rfl) rfl ?_ ?_
     ·go_simp
      (try simp only [i64_w])
      try rfl
     refine hK.out _ _ ⟨va, cv, g6, m4_, m13_, m14_, (by rw [ha.out]; exact putSel_upk 3 hb_ rfl rfl rfl), QHB, QS0, dD_ (hoff 4 rfl), dD_ (hoff 8 rfl), dD_ (hoff 12 rfl), dD_ (hoff 4 rfl), QOB, dD_ (hoff 15 rfl), dD_ (hoff 4 rfl), dD_ (hoff 13 rfl), QX14_⟩
    refine steps_cons ?_ ?_
    ·rintro b a w' ⟨va, cv, g6, m4_, m13_, m14_, ha, QHB, QS0, QS1, QS2, QS3, QVR, QOB, QOF, QX4_, QX13_, QX14_⟩ hb_ hon hoff
     refine ⟨_, rfl, fun K hK => ?_⟩
     have e17 : a.tmps[17]? = some (.slice A2 an.length c2) := by rw [ha]; exact putSel_on (e := (1, 17, .slice A2 an.length c2)) 1 rfl rfl (hon 1 rfl) rfl
     have e19 : a.tmps[19]? = some (.func (.func 55) #[.pointer (some ⟨gs, 0, none⟩)] #[]) := by rw [ha]; exact putSel_on (e := (3, 19, .func (.func 55) #[.pointer (some ⟨gs, 0, none⟩)] #[])) 3 rfl rfl (hon 3 rfl) rfl
     replace ha := aM_ ha
     have HB := aM_ QHB
     have S0 := aM_ (QS0 hb_)
     refine call_ 54 #[.slice A2 an.length c2, .func (.func 55) #[.pointer (some ⟨gs, 0, none⟩)] #[]] (by rfl) rfl ?_ ?_
     ·go_simp
     refine (mapA_any an A2 c2 size false gs w w' HAL.out HWS.out (HJ.out w' HB.out) HCA.out S0.out).mono ?_
     rintro e w2' ⟨V, rfl, hR, hs, hbk⟩
     obtain ⟨va', cv', rfl⟩ := Kd.R_slice hR
     rw [List.length_map] at hR ⊢
     rw [Q1.out] at hbk
     refine ⟨_, rfl, ?_⟩
     refine hK.out _ _ ⟨va', cv', g6, (.slice va' an.length cv'), m13_, m14_, (by rw [ha.out]; exact putSel_upk 4 hb_ rfl rfl rfl), HB.out.trans (hs.mono HB.out.size), dE_ (up_self b 4), fun _ _ => hbk, dD_ (hoff 8 rfl), dD_ (hoff 12 rfl), fun _ => Kd.R_lower hR HB.out.size, fun h0_ h1_ => ⟨(QOB h0_ h1_).1, hs.blk (QOB h0_ h1_).2 (QOB h0_ h1_).2.lt (by have := (QOB h0_ h1_).1; have := GS4.out; omega)⟩, dD_ (hoff 15 rfl), fun _ => rfl, dD_ (hoff 13 rfl), QX14_⟩
    refine steps_cons ?_ ?_
    ·rintro b a w' ⟨va, cv, g6, m4_, m13_, m14_, ha, QHB, QS0, QS1, QS2, QS3, QVR, QOB, QOF, QX4_, QX13_, QX14_⟩ hb_ hon hoff
     refine ⟨_, rfl, fun K hK => ?_⟩
     have e5 : a.tmps[5]? = some (.pointer (some ⟨g5, 0, none⟩)) := by rw [ha]; exact (putSel_off rfl).trans rfl
     replace ha := aM_ ha
     have HB := aM_ QHB
     have z := (HB.out.blk G5.out G5.out.lt NG5.out).cell 0
     simp only [gA_, gZ_, gS_] at z
     refine value_ (w1 := w') (v := .pointer (some ⟨gs, 0, none⟩)) (by rfl) rfl ?_ ?_
     ·go_simp
      (try simp only [i64_w])
      try rfl
     refine hK.out _ _ ⟨va, cv, g6, m4_, m13_, m14_, (by rw [ha.out]; exact putSel_upk 5 hb_ rfl rfl rfl), QHB, QS0, QS1, dD_ (hoff 8 rfl), dD_ (hoff 12 rfl), QVR, QOB, dD_ (hoff 15 rfl), QX4_, dD_ (hoff 13 rfl), QX14_⟩
    refine steps_cons ?_ ?_
    ·rintro b a w' ⟨va, cv, g6, m4_, m13_, m14_, ha, QHB, QS0, QS1, QS2, QS3, QVR, QOB, QOF, QX4_, QX13_, QX14_⟩ hb_ hon hoff
     refine ⟨_, rfl, fun K hK => ?_⟩
     have e2 : a.tmps[2]? = some (.pointer (some ⟨g2, 0, none⟩)) := by rw [ha]; exact (putSel_off rfl).trans rfl
     replace ha := aM_ ha
     have HB := aM_ QHB
     refine value_ (w1 := w') (v := .pointer (some ⟨g2, 2, none⟩)) (by rfl) rfl ?_ ?_
     ·go_simp
      (try simp only [i64_w])
      try rfl
     refine hK.out _ _ ⟨va, cv, g6, m4_, m13_, m14_, (by rw [ha.out]; exact putSel_upk 6 hb_ rfl rfl rfl), QHB, QS0, QS1, dD_ (hoff 8 rfl), dD_ (hoff 12 rfl), QVR, QOB, dD_ (hoff 15 rfl), QX4_, dD_ (hoff 13 rfl), QX14_⟩
    refine steps_cons ?_ ?_
    ·rintro b a w' ⟨va, cv, g6, m4_, m13_, m14_, ha, QHB, QS0, QS1, QS2, QS3, QVR, QOB, QOF, QX4_, QX13_, QX14_⟩ hb_ hon hoff
     refine ⟨_, rfl, fun K hK => ?_⟩
     have e22 : a.tmps[22]? = some (.pointer (some ⟨g2, 2, none⟩)) := by rw [ha]; exact putSel_on (e := (6, 22, .pointer (some ⟨g2, 2, none⟩))) 6 rfl rfl (hon 6 rfl) rfl
     replace ha := aM_ ha
     have HB := aM_ QHB
     have z2 := (HB.out.blk D4.out D4.out.lt ND.out).cell 2
     have z3 := (HB.out.blk D4.out D4.out.lt ND.out).cell 3
     have z4 := (HB.out.blk D4.out D4.out.lt ND.out).cell 4
     simp only [gA_, gZ_, gS_] at z2 z3 z4
     refine value_ (w1 := w') (v := .agg #[.int .i64 xa, .int .i64 xb, .int .i64 xc]) (by rfl) rfl ?_ ?_
     ·go_simp
      (try simp only [i64_w])
      try rfl
     refine hK.out _ _ ⟨va, cv, g6, m4_, m13_, m14_, (by rw [ha.out]; exact putSel_upk 7 hb_ rfl rfl rfl), QHB, QS0, QS1, dD_ (hoff 8 rfl), dD_ (hoff 12 rfl), QVR, QOB, dD_ (hoff 15 rfl), QX4_, dD_ (hoff 13 rfl), QX14_⟩
    refine steps_cons ?_ ?_
    ·rintro b a w' ⟨va, cv, g6, m4_, m13_, m14_, ha, QHB, QS0, QS1, QS2, QS3, QVR, QOB, QOF, QX4_, QX13_, QX14_⟩ hb_ hon hoff
     refine ⟨_, rfl, fun K hK => ?_⟩
     have e21 : a.tmps[21]? = some (.pointer (some ⟨gs, 0, none⟩)) := by rw [ha]; exact putSel_on (e := (5, 21, .pointer (some ⟨gs, 0, none⟩))) 5 rfl rfl (hon 5 rfl) rfl
     have e23 : a.tmps[23]? = some (.agg #[.int .i64 xa, .int .i64 xb, .int .i64 xc]) := by rw [ha]; exact putSel_on (e := (7, 23, .agg #[.int .i64 xa, .int .i64 xb, .int .i64 xc])) 7 rfl rfl (hon 7 rfl) rfl
     replace ha := aM_ ha
     have HB := aM_ QHB
     have S1 := aM_ (QS1 (hon 4 rfl) hb_)
     have VR := aM_ (QVR (hon 4 rfl))
     refine call_ 55 #[.pointer (some ⟨gs, 0, none⟩), .agg #[.int .i64 xa, .int .i64 xb, .int .i64 xc]] (by rfl) rfl ?_ ?_
     ·go_simp
     refine (oAch_any xa xb xc size b1 gs w' S1.out).mono ?_
     rintro e w2' ⟨rfl, hs, hbk⟩
     rw [M1.out, M2.out]
     rw [Q2.out] at hbk
     refine ⟨_, rfl, ?_⟩
     refine hK.out _ _ ⟨va, cv, g6, m4_, m13_, m14_, (by rw [ha.out]; exact putSel_upk 8 hb_ rfl rfl rfl), HB.out.trans (hs.mono HB.out.size), fun h0_ => absurd ((hon 4 rfl).symm.trans h0_) (by decide), fun _ => dE_ (up_self b 8), fun _ _ => hbk, dD_ (hoff 12 rfl), fun _ => Sc.R VR.out S1.out (by decide) hs, fun h0_ h1_ => ⟨(QOB h0_ h1_).1, hs.blk (QOB h0_ h1_).2 (QOB h0_ h1_).2.lt (by have := (QOB h0_ h1_).1; have := GS4.out; omega)⟩, dD_ (hoff 15 rfl), QX4_, dD_ (hoff 13 rfl), QX14_⟩
    refine steps_cons ?_ ?_
    ·rintro b a w' ⟨va, cv, g6, m4_, m13_, m14_, ha, QHB, QS0, QS1, QS2, QS3, QVR, QOB, QOF, QX4_, QX13_, QX14_⟩ hb_ hon hoff
     refine ⟨_, rfl, fun K hK => ?_⟩
     have e5 : a.tmps[5]? = some (.pointer (some ⟨g5, 0, none⟩)) := by rw [ha]; exact (putSel_off rfl).trans rfl
     replace ha := aM_ ha
     have HB := aM_ QHB
     have z := (HB.out.blk G5.out G5.out.lt NG5.out).cell 0
     simp only [gA_, gZ_, gS_] at z
     refine value_ (w1 := w') (v := .pointer (some ⟨gs, 0, none⟩)) (by rfl) rfl ?_ ?_
     ·go_simp
      (try simp only [i64_w])
      try rfl
     refine hK.out _ _ ⟨va, cv, g6, m4_, m13_, m14_, (by rw [ha.out]; exact putSel_upk 9 hb_ rfl rfl rfl), QHB, QS0, QS1, QS2, dD_ (hoff 12 rfl), QVR, QOB, dD_ (hoff 15 rfl), QX4_, dD_ (hoff 13 rfl), QX14_⟩
    refine steps_cons ?_ ?_
    ·rintro b a w' ⟨va, cv, g6, m4_, m13_, m14_, ha, QHB, QS0, QS1, QS2, QS3, QVR, QOB, QOF, QX4_, QX13_, QX14_⟩ hb_ hon hoff
     refine ⟨_, rfl, fun K hK => ?_⟩
     have e2 : a.tmps[2]? = some (.pointer (some ⟨g2, 0, none⟩)) := by rw [ha]; exact (putSel_off rfl).trans rfl
     replace ha := aM_ ha
     have HB := aM_ QHB
     refine value_ (w1 := w') (v := .pointer (some ⟨g2, 5, none⟩)) (by rfl) rfl ?_ ?_
     ·go_simp
      (try simp only [i64_w])
      try rfl
     refine hK.out _ _ ⟨va, cv, g6, m4_, m13_, m14_, (by rw [ha.out]; exact putSel_upk 10 hb_ rfl rfl rfl), QHB, QS0, QS1, QS2, dD_ (hoff 12 rfl), QVR, QOB, dD_ (hoff 15 rfl), QX4_, dD_ (hoff 13 rfl), QX14_⟩
    refine steps_cons ?_ ?_
    ·rintro b a w' ⟨va, cv, g6, m4_, m13_, m14_, ha, QHB, QS0, QS1, QS2, QS3, QVR, QOB, QOF, QX4_, QX13_, QX14_⟩ hb_ hon hoff
     refine ⟨_, rfl, fun K hK => ?_⟩
     have e26 : a.tmps[26]? = some (.pointer (some ⟨g2, 5, none⟩)) := by rw [ha]; exact putSel_on (e := (10, 26, .pointer (some ⟨g2, 5, none⟩))) 10 rfl rfl (hon 10 rfl) rfl
     replace ha := aM_ ha
     have HB := aM_ QHB
     have z5 := (HB.out.blk D4.out D4.out.lt ND.out).cell 5
     simp only [gA_, gZ_, gS_] at z5
     refine value_ (w1 := w') (v := .int .i64 av) (by rfl) rfl ?_ ?_
     ·go_simp
      (try simp only [i64_w])
      try rfl
     refine hK.out _ _ ⟨va, cv, g6, m4_, m13_, m14_, (by rw [ha.out]; exact putSel_upk 11 hb_ rfl rfl rfl), QHB, QS0, QS1, QS2, dD_ (hoff 12 rfl), QVR, QOB, dD_ (hoff 15 rfl), QX4_, dD_ (hoff 13 rfl), QX14_⟩
    refine steps_cons ?_ ?_
    ·rintro b a w' ⟨va, cv, g6, m4_, m13_, m14_, ha, QHB, QS0, QS1, QS2, QS3, QVR, QOB, QOF, QX4_, QX13_, QX14_⟩ hb_ hon hoff
     refine ⟨_, rfl, fun K hK => ?_⟩
     have e25 : a.tmps[25]? = some (.pointer (some ⟨gs, 0, none⟩)) := by rw [ha]; exact putSel_on (e := (9, 25, .pointer (some ⟨gs, 0, none⟩))) 9 rfl rfl (hon 9 rfl) rfl
     have e27 : a.tmps[27]? = some (.int .i64 av) := by rw [ha]; exact putSel_on (e := (11, 27, .int .i64 av)) 11 rfl rfl (hon 11 rfl) rfl
     replace ha := aM_ ha
     have HB := aM_ QHB
     have S2 := aM_ (QS2 (hon 8 rfl) hb_)
     have VR := aM_ (QVR (hon 4 rfl))
     refine call_ 56 #[.pointer (some ⟨gs, 0, none⟩), .int .i64 av] (by rfl) rfl ?_ ?_
     ·go_simp
     refine (number_any av size b2 gs w' S2.out).mono ?_
     rintro e w2' ⟨rfl, hs, hbk⟩
     rw [M3.out]
     rw [Q3.out] at hbk
     refine ⟨_, rfl, ?_⟩
     refine hK.out _ _ ⟨va, cv, g6, m4_, m13_, m14_, (by rw [ha.out]; exact putSel_upk 12 hb_ rfl rfl rfl), HB.out.trans (hs.mono HB.out.size), fun h0_ => absurd ((hon 4 rfl).symm.trans h0_) (by decide), fun _ => dE_ (hon 8 rfl), fun _ => dE_ (up_self b 12), fun _ => hbk, fun _ => Sc.R VR.out S2.out (by decide) hs, fun h0_ h1_ => ⟨(QOB h0_ h1_).1, hs.blk (QOB h0_ h1_).2 (QOB h0_ h1_).2.lt (by have := (QOB h0_ h1_).1; have := GS4.out; omega)⟩, dD_ (hoff 15 rfl), QX4_, dD_ (hoff 13 rfl), QX14_⟩
    refine steps_cons ?_ ?_
    ·rintro b a w' ⟨va, cv, g6, m4_, m13_, m14_, ha, QHB, QS0, QS1, QS2, QS3, QVR, QOB, QOF, QX4_, QX13_, QX14_⟩ hb_ hon hoff
     refine ⟨_, rfl, fun K hK => ?_⟩
     have e20 : a.tmps[20]? = some (m4_) := by rw [ha]; exact putSel_on (e := (4, 20, m4_)) 4 rfl rfl (hon 4 rfl) rfl
     rw [QX4_ (hon 4 rfl)] at e20
     have e24 : a.tmps[24]? = some (.agg #[.int .i64 xa, .int .i64 m1, .int .i64 m2]) := by rw [ha]; exact putSel_on (e := (8, 24, .agg #[.int .i64 xa, .int .i64 m1, .int .i64 m2])) 8 rfl rfl (hon 8 rfl) rfl
     have e28 : a.tmps[28]? = some (.int .i64 m3) := by rw [ha]; exact putSel_on (e := (12, 28, .int .i64 m3)) 12 rfl rfl (hon 12 rfl) rfl
     replace ha := aM_ ha
     have HB := aM_ QHB
     have S3 := aM_ (QS3 (hon 12 rfl))
     have VR := aM_ (QVR (hon 4 rfl))
     refine value_ (w1 := w') (v := .agg #[.slice none 0 0, .slice va an.length cv, .int .i64 xa, .int .i64 m1, .int .i64 m2, .int .i64 m3]) (by rfl) rfl ?_ ?_
     ·go_simp
      (try simp only [i64_w])
      try rfl
     refine hK.out _ _ ⟨va, cv, g6, m4_, (.agg #[.slice none 0 0, .slice va an.length cv, .int .i64 xa, .int .i64 m1, .int .i64 m2, .int .i64 m3]), m14_, (by rw [ha.out]; exact putSel_upk 13 hb_ rfl rfl rfl), QHB, fun h0_ => absurd ((hon 4 rfl).symm.trans h0_) (by decide), fun _ => dE_ (hon 8 rfl), fun _ => dE_ (hon 12 rfl), QS3, QVR, QOB, dD_ (hoff 15 rfl), QX4_, fun _ => rfl, QX14_⟩
    refine steps_cons ?_ ?_
    ·rintro b a w' ⟨va, cv, g6, m4_, m13_, m14_, ha, QHB, QS0, QS1, QS2, QS3, QVR, QOB, QOF, QX4_, QX13_, QX14_⟩ hb_ hon hoff
     refine ⟨_, rfl, fun K hK => ?_⟩
     replace ha := aM_ ha
     have HB := aM_ QHB
     refine value_ (w1 := w'.alloc (.cells #[.slice none 0 0, .slice none 0 0, .int .i64 0, .int .i64 0, .int .i64 0, .int .i64 0] 51)) (v := .pointer (some ⟨w'.heap.size, 0, none⟩)) (by rfl) rfl ?_ ?_
     ·go_simp
     refine hK.out _ _ ⟨va, cv, w'.heap.size, m4_, m13_, (.pointer (some ⟨w'.heap.size, 0, none⟩)), (by rw [ha.out]; exact putSel_upk 14 hb_ rfl rfl rfl), HB.out.step HB.out.size (Nat.le_trans (Nat.le_of_lt GS4.out) HB.out.size) (below_alloc (Below.refl _ w') _), fun h0_ => (QS0 h0_).alloc _, fun h0_ h1_ => (QS1 h0_ h1_).alloc _, fun h0_ h1_ => (QS2 h0_ h1_).alloc _, fun h0_ => (QS3 h0_).alloc _, fun h0_ => Kd.R_below (QVR h0_) (below_alloc (Below.refl _ w') _), fun _ _ => ⟨HB.out.size, Blk.new w' _ _ rfl⟩, dD_ (hoff 15 rfl), QX4_, QX13_, fun _ => rfl⟩
    refine steps_cons ?_ ?_
    ·rintro b a w' ⟨va, cv, g6, m4_, m13_, m14_, ha, QHB, QS0, QS1, QS2, QS3, QVR, QOB, QOF, QX4_, QX13_, QX14_⟩ hb_ hon hoff
     refine ⟨_, rfl, fun K hK => ?_⟩
     have e6 : a.tmps[6]? = some (m14_) := by rw [ha]; exact putSel_on (e := (14, 6, m14_)) 14 rfl rfl (hon 14 rfl) rfl
     rw [QX14_ (hon 14 rfl)] at e6
     have e29 : a.tmps[29]? = some (m13_) := by rw [ha]; exact putSel_on (e := (13, 29, m13_)) 13 rfl rfl (hon 13 rfl) rfl
     rw [QX13_ (hon 13 rfl)] at e29
     replace ha := aM_ ha
     have HB := aM_ QHB
     have S3 := aM_ (QS3 (hon 12 rfl))
     have VR := aM_ (QVR (hon 4 rfl))
     have OB := aM_ (QOB (hon 14 rfl) hb_)
     have c0 := OB.out.2.cell 0
     have c1 := OB.out.2.cell 1
     have c2 := OB.out.2.cell 2
     have c3 := OB.out.2.cell 3
     have c4 := OB.out.2.cell 4
     have c5 := OB.out.2.cell 5
     simp only [gA_, gZ_, gS_] at c0 c1 c2 c3 c4 c5
     have f0 := OB.out.2.frozen 0
     have f1 := OB.out.2.frozen 1
     have f2 := OB.out.2.frozen 2
     have f3 := OB.out.2.frozen 3
     have f4 := OB.out.2.frozen 4
     have f5 := OB.out.2.frozen 5
     refine skip_ (w1 := ((((((w'.setCell ⟨g6, 0, none⟩ (.slice none 0 0)).setCell ⟨g6, 1, none⟩ (.slice va an.length cv)).setCell ⟨g6, 2, none⟩ (.int .i64 xa)).setCell ⟨g6, 3, none⟩ (.int .i64 m1)).setCell ⟨g6, 4, none⟩ (.int .i64 m2)).setCell ⟨g6, 5, none⟩ (.int .i64 m3))) (by rfl) rfl ?_ ?_
     ·go_simp
     refine hK.out _ _ ⟨va, cv, g6, m4_, m13_, m14_, (by rw [ha.out]; exact putSel_none (v := undef) rfl), ((((((HB.out.trans (Sc.setN _ OB.out.1 (by have := OB.out.1; have := GS4.out; omega) 0 _)).trans (Sc.setN _ OB.out.1 (by have := OB.out.1; have := GS4.out; omega) 1 _)).trans (Sc.setN _ OB.out.1 (by have := OB.out.1; have := GS4.out; omega) 2 _)).trans (Sc.setN _ OB.out.1 (by have := OB.out.1; have := GS4.out; omega) 3 _)).trans (Sc.setN _ OB.out.1 (by have := OB.out.1; have := GS4.out; omega) 4 _)).trans (Sc.setN _ OB.out.1 (by have := OB.out.1; have := GS4.out; omega) 5 _)), fun h0_ => absurd ((hon 4 rfl).symm.trans h0_) (by decide), fun _ => dE_ (hon 8 rfl), fun _ => dE_ (hon 12 rfl), fun _ => ((((((S3.out.far (by have := OB.out.1; have := GS4.out; omega) 0 _).far (by have := OB.out.1; have := GS4.out; omega) 1 _).far (by have := OB.out.1; have := GS4.out; omega) 2 _).far (by have := OB.out.1; have := GS4.out; omega) 3 _).far (by have := OB.out.1; have := GS4.out; omega) 4 _).far (by have := OB.out.1; have := GS4.out; omega) 5 _), fun _ => R_put6 VR.out OB.out.2 (by decide) _ _ _ _ _ _, fun _ => dE_ (up_self b 15), fun _ => ⟨OB.out.1, ((((((OB.out.2.put 0 _ rfl).put 1 _ rfl).put 2 _ rfl).put 3 _ rfl).put 4 _ rfl).put 5 _ rfl)⟩, QX4_, QX13_, QX14_⟩
    exact steps_nil
   ·rintro b a w' hall ⟨va, cv, g6, m4_, m13_, m14_, ha, QHB, QS0, QS1, QS2, QS3, QVR, QOB, QOF, QX4_, QX13_, QX14_⟩
    clear HB S0
    have hb0_ := hall 0 (by kernel_rfl)
    have hb1_ := hall 1 (by kernel_rfl)
    have hb2_ := hall 2 (by kernel_rfl)
    have hb3_ := hall 3 (by kernel_rfl)
    have hb4_ := hall 4 (by kernel_rfl)
    have hb5_ := hall 5 (by kernel_rfl)
    have hb6_ := hall 6 (by kernel_rfl)
    have hb7_ := hall 7 (by kernel_rfl)
    have hb8_ := hall 8 (by kernel_rfl)
    have hb9_ := hall 9 (by kernel_rfl)
    have hb10_ := hall 10 (by kernel_rfl)
    have hb11_ := hall 11 (by kernel_rfl)
    have hb12_ := hall 12 (by kernel_rfl)
    have hb13_ := hall 13 (by kernel_rfl)
    have hb14_ := hall 14 (by kernel_rfl)
    have hb15_ := hall 15 (by kernel_rfl)
    subst ha
    obtain rfl := QX4_ hb4_
    obtain rfl := QX13_ hb13_
    obtain rfl := QX14_ hb14_
    simp only [putSel, hb0_, hb1_, hb2_, hb3_, hb4_, hb5_, hb6_, hb7_, hb8_, hb9_, hb10_, hb11_, hb12_, hb13_, hb14_, hb15_, if_true, Act.put, List.setIfInBounds_toArray, List.set_cons_zero, List.set_cons_succ]
    have HB := aM_ QHB
    clear QHB
    clear QS0
    clear QS1
    clear QS2
    have S3 := aM_ (QS3 hb12_)
    clear QS3
    have VR := aM_ (QVR hb4_)
    clear QVR
    clear QOB
    have OF := aM_ (QOF hb15_)
    clear QOF
    clear hall hb0_ hb1_ hb2_ hb3_ hb4_ hb5_ hb6_ hb7_ hb8_ hb9_ hb10_ hb11_ hb12_ hb13_ hb14_ hb15_
    have OFB := lH_ OF.out.2
    have OFL := lH_ OF.out.1
    have z0 := (HB.out.blk D4.out D4.out.lt ND.out).cell 0
    have o0 := OFB.out.cell 0
    have f0 := OFB.out.frozen 0
    simp only [gA_, gZ_, gS_] at z0 o0
    go_wp2_with fail
    refine (mapC_any ct A1 c1 size b3 gs g5 w w' HCL.out HCP.out HWS.out (HJ.out w' HB.out) HCT.out S3.out (HB.out.blk G5.out G5.out.lt NG5.out) NG5.out).mono ?_
    rintro e w5 ⟨V, rfl, hR, hs, hbk⟩
    obtain ⟨vb, cb, rfl⟩ := Kd.R_slice hR
    rw [List.length_map] at hR ⊢
    have HB5 := HB.out.trans (hs.mono HB.out.size)
    have OF5 := hs.blk OFB.out OFB.out.lt (by have := OFL.out; have := GS4.out; omega)
    have VR5 := Sc.R VR.out S3.out (by decide) hs
    clear z0 o0 f0
    have o0 := OF5.cell 0
    have f0 := OF5.frozen 0
    simp only [gA_, gZ_, gS_] at o0
    go_upto_region 4 with fail
    have OF6 : Hid (Blk _ g6 #[.slice vb ct.length cb, .slice va an.length cv, .int .i64 xa, .int .i64 m1, .int .i64 m2, .int .i64 m3] 51) := lH_ (OF5.put 0 (.slice vb ct.length cb) rfl)
    have HB6 := lH_ (HB5.trans (Sc.setN w5 OFL.out (by have := OFL.out; have := GS4.out; omega) 0 (.slice vb ct.length cb)))
    have K6 := lH_ (hbk.far (g' := g6) (show gs ≠ g6 by have := OFL.out; have := GS4.out; omega) 0 (.slice vb ct.length cb))
    have VR6 := lH_ (Kd.R_set VR5 OF5 (by decide) 0 (.slice vb ct.length cb))
    have CR6 := lH_ (Kd.R_lower (Kd.R_set hR OF5 (by decide) 0 (.slice vb ct.length cb)) HB.out.size)
    clear o0 f0 HB5 OF5 VR5 hbk hR hs
    generalize World.setCell _ _ _ = w6 at *
    obtain ⟨b4, q4⟩ : ∃ v, (b3 || ct.any (mapCW size)) = v := ⟨_, rfl⟩
    rw [q4] at K6
    have Q4 := lH_ q4
    clear q4
    have z0 := (HB6.out.blk G5.out G5.out.lt NG5.out).cell 0
    have k1 := K6.out.cell 1
    simp only [gA_, gZ_, gS_] at z0 k1
    have HSW : Hid (scW size an xb xc av ct = b4) := lH_ (by unfold scW; rw [HWT.out, Q1.out, Q2.out, Q3.out, Q4.out])
    have HBZ := HJ.out w6 HB6.out
    have Z6 := lH_ (HB6.out.blk Z4.out Z4.out.lt NZ.out)
    cases b4
    ·have y0 := Z6.out.cell 0
     have y1 := Z6.out.cell 1
     have y2 := Z6.out.cell 2
     have y3 := Z6.out.cell 3
     have y4 := Z6.out.cell 4
     have y5 := Z6.out.cell 5
     have f0 := Z6.out.frozen 0
     have f1 := Z6.out.frozen 1
     have f2 := Z6.out.frozen 2
     have f3 := Z6.out.frozen 3
     have f4 := Z6.out.frozen 4
     have f5 := Z6.out.frozen 5
     simp only [gA_, gZ_, gS_] at y0 y1 y2 y3 y4 y5
     have o0 := OF6.out.cell 0
     have o1 := OF6.out.cell 1
     have o2 := OF6.out.cell 2
     have o3 := OF6.out.cell 3
     have o4 := OF6.out.cell 4
     have o5 := OF6.out.cell 5
     simp only [gA_, gZ_, gS_] at o0 o1 o2 o3 o4 o5
     go_wp2_with fail
     refine bodyPost_ret (res_c (g := g4) rfl _ _ _ _ _ rfl ((((((Z6.out.put 0 _ rfl).put 1 _ rfl).put 2 _ rfl).put 3 _ rfl).put 4 _ rfl).put 5 _ rfl) rfl Try.underlying51 (by kernel_rfl)) rfl ⟨(bset (bset (bset (bset (bset (bset HBZ GZ4.out 0 _) GZ4.out 1 _) GZ4.out 2 _) GZ4.out 3 _) GZ4.out 4 _) GZ4.out 5 _), .inr ⟨HSW.out, vb, cb, va, cv, by rw [M1.out, M2.out, M3.out]; rfl, Kd.R_lower (R_put6 CR6.out Z6.out (by decide) _ _ _ _ _ _) HX5.out.size, Kd.R_lower (R_put6 VR6.out Z6.out (by decide) _ _ _ _ _ _) HX5.out.size⟩⟩
    ·have y0 := Z6.out.cell 0
     have y1 := Z6.out.cell 1
     have y2 := Z6.out.cell 2
     have y3 := Z6.out.cell 3
     have y4 := Z6.out.cell 4
     have y5 := Z6.out.cell 5
     have f0 := Z6.out.frozen 0
     have f1 := Z6.out.frozen 1
     have f2 := Z6.out.frozen 2
     have f3 := Z6.out.frozen 3
     have f4 := Z6.out.frozen 4
     have f5 := Z6.out.frozen 5
     simp only [gA_, gZ_, gS_] at y0 y1 y2 y3 y4 y5
     go_wp2_with fail
     refine bodyPost_ret (res_c (g := g4) rfl _ _ _ _ _ rfl ((((((Z6.out.put 0 _ rfl).put 1 _ rfl).put 2 _ rfl).put 3 _ rfl).put 4 _ rfl).put 5 _ rfl) rfl Try.underlying51 (by kernel_rfl)) rfl ⟨(bset (bset (bset (bset (bset (bset HBZ GZ4.out 0 _) GZ4.out 1 _) GZ4.out 2 _) GZ4.out 3 _) GZ4.out 4 _) GZ4.out 5 _), .inl ⟨HSW.out, rfl⟩⟩

end Go.Proofs.Ythpccdhmppbkfaa