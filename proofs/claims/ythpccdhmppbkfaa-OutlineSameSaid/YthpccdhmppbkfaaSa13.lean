/- OOdc, OOd: merged by wip/prune.py. -/
import Derived.Test.YthpccdhmppbkfaaSa11
import Derived.Test.YthpccdhmppbkfaaSa12
/- the reference's Odd: some glyph; changes 11 to 13. -/
set_option linter.unusedVariables false
set_option linter.unusedSimpArgs false
set_option maxRecDepth 100000
set_option maxHeartbeats 16000000
namespace Go.Proofs.Ythpccdhmppbkfaa
open Go.RowKit Go.Shelf Go.Proofs.YthpccdhmppbkfaaW.PrintWords Go.Proofs.YthpccdhmppbkfaaW.PrintLast Go.Proofs.YthpccdhmppbkfaaW.PrintMore
def oOd47.T47 : Bool × List (List Nat × List Nat) := (true, [([], []), ([0], [0]), ([], []), ([2], [2]), ([3], [3]), ([], []), ([5], [5]), ([6], [6]), ([7], [7]), ([8], [8]), ([4, 9], [4, 9]), ([1, 0, 1, 2, 3, 4, 5, 6, 7, 8, 9, 10], [1]), ([11, 0, 1, 2, 3, 4, 5, 6, 7, 8, 9, 10], [11]), ([12, 10, 10, 0, 1, 2, 3, 4, 5, 6, 7, 8, 9, 10], [10, 12])])
def oOd47.B47 : List Nat := [0, 1, 0, 4, 12, 0, 32, 96, 224, 480, 1020, 2047, 4095, 8191]
theorem oOd47.tab47 : rtab .any (opsOf Try.f10 47) = oOd47.T47 := by kernel_rfl
theorem oOd47.bits47 : waitsOk oOd47.T47.2 oOd47.B47 = true := by kernel_rfl
theorem nE13_ (l : List Nat) (t : Nat) (h : (l.all fun q => !(q == t)) = true) : ∀ q, q ∈ l → q ≠ t := fun q hq e => by have := List.all_eq_true.1 h q hq; simp [e] at this
theorem odd_c (g : Gl) (h : Hd) (q0 q1 q2 : Int) (w : World) (hg : GlR w g h) (hl : g.ct.length ≤ 1000000 ∧ g.an.length ≤ 1000000 ∧ g.dl.length ≤ 1000000) (h3 : ∀ c ∈ g.ct, 3 ≤ c.length ∧ c.length ≤ 1000000) (h4 : ∀ d ∈ g.dl, d.moves.length ≤ 1000000) (hq : 11 ≤ q0 % 14 ∧ q0 % 14 ≤ 13) : Calls Try.prog 10 #[.agg (gv g h), .agg #[.int .i64 q0, .int .i64 q1, .int .i64 q2]] w fun e w' => ∃ g' h', e = .returned (.agg (gv g' h')) ∧ GlR w' g' h' ∧ Below w.heap.size w w' := by
 have HG := lH_ hg
 have HL := lH_ hl
 have HL3 := lH_ h3
 have HL4 := lH_ h4
 have HQ := lH_ hq
 clear hg hl h3 h4 hq
 obtain ⟨N1, n1, N2, n2, N3, n3, N4, n4⟩ := h
 go_enter Try.func10, Try.ntmps10
 unfold gv
 dsimp only
 go_upto_region 1 with fail
 obtain ⟨w1, gI, hw0_, hg0_, XgI_, YgI_, _⟩ := new_box w #[.slice N1 g.ct.length n1, .slice N2 g.an.length n2, .int .i64 g.hang.a, .int .i64 g.hang.b, .int .i64 g.hang.c, .int .i64 g.adv, .slice N3 g.dl.length n3, .slice N4 g.pr.length n4] 29
 obtain ⟨w2, gQ, hw1_, hg1_, XgQ_, YgQ_, _⟩ := new_box w1 #[.int .i64 q0, .int .i64 q1, .int .i64 q2] 31
 obtain ⟨w3, gR, hw2_, hg2_, XgR_, YgR_, _⟩ := new_box w2 #[.slice none 0 0, .slice none 0 0, .int .i64 0, .int .i64 0, .int .i64 0, .int .i64 0, .slice none 0 0, .slice none 0 0] 29
 have s1_ : w.heap.size + 1 = gQ := by rw [← hg1_, ← hw0_]; simp
 have s2_ : w.heap.size + 1 + 1 = gR := by rw [← hg2_, ← hw1_, ← hw0_]; simp
 rw [hw0_, hw1_, hw2_, s2_, s1_, hg0_]
 have EgI := lH_ (show gI = w.heap.size + 0 by omega)
 have EgQ := lH_ (show gQ = w.heap.size + 1 by omega)
 have EgR := lH_ (show gR = w.heap.size + 2 by omega)
 clear hw0_ hg0_ hw1_ hg1_ hw2_ hg2_ s1_ s2_
 have HXw3 := lH_ (bthen' (bthen' (YgI_.out) YgQ_.out) YgR_.out)
 have BgI := lH_ (((XgI_.out).below YgQ_.out).below YgR_.out)
 have BgQ := lH_ ((XgQ_.out).below YgR_.out)
 have BgR := lH_ (XgR_.out)
 clear XgI_ YgI_ XgQ_ YgQ_ XgR_ YgR_
 have HX := HXw3
 clear HXw3
 have t0 := BgI.out.cell 0
 have t1 := BgI.out.cell 1
 have t2 := BgI.out.cell 2
 have t3 := BgI.out.cell 3
 have t4 := BgI.out.cell 4
 have t5 := BgI.out.cell 5
 have t6 := BgI.out.cell 6
 have t7 := BgI.out.cell 7
 simp only [gA_, gZ_, gS_] at t0 t1 t2 t3 t4 t5 t6 t7
 go_upto_region 2 with fail
 clear t0 t1 t2 t3 t4 t5 t6 t7
 obtain ⟨w4, gO, hw0_, hg0_, XgO_, YgO_, _⟩ := new_box w3 #[.slice N1 g.ct.length n1, .slice N2 g.an.length n2, .int .i64 g.hang.a, .int .i64 g.hang.b, .int .i64 g.hang.c, .int .i64 g.adv, .slice N3 g.dl.length n3, .slice N4 g.pr.length n4] 29
 rw [hw0_, hg0_]
 have EgO := lH_ (show gO = w3.heap.size + 0 by omega)
 clear hw0_ hg0_
 have HXw4 := lH_ (YgO_.out)
 have BgO := lH_ (XgO_.out)
 clear XgO_ YgO_
 have HOW := lH_ (show w.heap.size ≤ gO by have := EgO.out; have := HX.out.size; omega)
 have HNE := lH_ (show gI ≠ gO ∧ gQ ≠ gO ∧ gR ≠ gO by have := EgO.out; have := BgI.out.lt; have := BgQ.out.lt; have := BgR.out.lt; omega)
 have hb := HXw4.out
 replace HX := lH_ (bthen' HX.out hb)
 replace BgI := lH_ (BgI.out.below hb)
 replace BgQ := lH_ (BgQ.out.below hb)
 replace BgR := lH_ (BgR.out.below hb)
 clear hb HXw4
 have t0 := BgI.out.cell 0
 simp only [gA_, gZ_, gS_] at t0
 have hgu : gI < w4.heap.size := BgI.out.lt
 obtain ⟨vv, v5, hr, o1, o2, o3⟩ := append_all (d := (view w kCt)) (w0 := w) (w := w4.alloc (.cells #[] 71)) 22 71 _ 24 (by kernel_rfl) infoCt rfl (show 0 < (kCt).sz from by decide) (by omega) (fun h => h) (R_empty ((view w kCt)) 71 HX.out.size) (bthen' HX.out (below_alloc (Below.refl _ w4) _)) (Nat.le_trans HX.out.size (by simp)) N1 n1 (C_view HG.out.ct (bthen' HX.out (below_alloc (Below.refl _ w4) _))) (by have := HL.out.1; simp only [List.length_nil]; omega)
 rw [List.nil_append] at o1
 obtain ⟨Vc, cc, rfl⟩ := Kd.R_slice o1
 replace BgI := lH_ (show Blk v5 gI _ _ from (o3.block gI (BgI.out.alloc _).lt (fun e_ => by cases e_; exact Nat.lt_irrefl _ BgI.out.lt)).trans (BgI.out.alloc _))
 replace BgQ := lH_ (show Blk v5 gQ _ _ from (o3.block gQ (BgQ.out.alloc _).lt (fun e_ => by cases e_; exact Nat.lt_irrefl _ BgQ.out.lt)).trans (BgQ.out.alloc _))
 replace BgR := lH_ (show Blk v5 gR _ _ from (o3.block gR (BgR.out.alloc _).lt (fun e_ => by cases e_; exact Nat.lt_irrefl _ BgR.out.lt)).trans (BgR.out.alloc _))
 replace BgO := lH_ (show Blk v5 gO _ _ from (o3.block gO (BgO.out.alloc _).lt (fun e_ => by cases e_; exact Nat.lt_irrefl _ BgO.out.lt)).trans (BgO.out.alloc _))
 have HRc := lH_ o1
 replace HX := lH_ o2
 have HHR := lH_ hr
 clear hr o1 o2 o3
 have f0 := BgO.out.frozen 0
 have x0 := BgO.out.cell 0
 simp only [gA_, gZ_, gS_] at x0
 go_upto_region 3 with (at_builtin; go_loud (refine Kd.event_run rfl (run_append_opU (by rfl) rfl rfl HHR.out) ?_))
 replace HRc := lH_ (Kd.R_set HRc.out BgO.out (nE13_ [71] 29 rfl) 0 (.slice Vc g.ct.length cc))
 replace BgI := lH_ (BgI.out.far (show gI ≠ gO by have := HNE.out; omega) 0 (.slice Vc g.ct.length cc))
 replace BgQ := lH_ (BgQ.out.far (show gQ ≠ gO by have := HNE.out; omega) 0 (.slice Vc g.ct.length cc))
 replace BgR := lH_ (BgR.out.far (show gR ≠ gO by have := HNE.out; omega) 0 (.slice Vc g.ct.length cc))
 replace HX := lH_ (bset HX.out HOW.out 0 (.slice Vc g.ct.length cc))
 replace BgO := lH_ (show Blk _ gO #[.slice Vc g.ct.length cc, .slice N2 g.an.length n2, .int .i64 g.hang.a, .int .i64 g.hang.b, .int .i64 g.hang.c, .int .i64 g.adv, .slice N3 g.dl.length n3, .slice N4 g.pr.length n4] 29 from BgO.out.put 0 (.slice Vc g.ct.length cc) rfl)
 clear hgu HHR t0 f0 x0
 generalize World.setCell _ _ _ = w5 at *
 have t1 := BgI.out.cell 1
 simp only [gA_, gZ_, gS_] at t1
 have hgu : gI < w5.heap.size := BgI.out.lt
 obtain ⟨vv, v6, hr, o1, o2, o3⟩ := append_all (d := kI3) (w0 := w) (w := w5.alloc (.cells #[] 25)) 23 25 _ 24 (by kernel_rfl) infoAn rfl (show 0 < (kI3).sz from by decide) (by omega) (fun h => h) (R_empty (kI3) 25 HX.out.size) (bthen' HX.out (below_alloc (Below.refl _ w5) _)) (Nat.le_trans HX.out.size (by simp)) N2 n2 (Kd.C_below HG.out.an (bthen' HX.out (below_alloc (Below.refl _ w5) _))) (by have := HL.out.2.1; simp only [List.length_nil]; omega)
 rw [List.nil_append] at o1
 obtain ⟨Va, ca, rfl⟩ := Kd.R_slice o1
 replace HRc := lH_ (Kd.R_mono (Kd.R_grown (Kd.R_below (Kd.R_bound HRc.out) (below_alloc (Below.refl _ w5) _)) o3 (fun k_ h_ e_ => by cases e_; exact Nat.lt_irrefl _ h_.2.2.1)) (fun _ h_ => h_.1))
 replace BgI := lH_ (show Blk v6 gI _ _ from (o3.block gI (BgI.out.alloc _).lt (fun e_ => by cases e_; exact Nat.lt_irrefl _ BgI.out.lt)).trans (BgI.out.alloc _))
 replace BgQ := lH_ (show Blk v6 gQ _ _ from (o3.block gQ (BgQ.out.alloc _).lt (fun e_ => by cases e_; exact Nat.lt_irrefl _ BgQ.out.lt)).trans (BgQ.out.alloc _))
 replace BgR := lH_ (show Blk v6 gR _ _ from (o3.block gR (BgR.out.alloc _).lt (fun e_ => by cases e_; exact Nat.lt_irrefl _ BgR.out.lt)).trans (BgR.out.alloc _))
 replace BgO := lH_ (show Blk v6 gO _ _ from (o3.block gO (BgO.out.alloc _).lt (fun e_ => by cases e_; exact Nat.lt_irrefl _ BgO.out.lt)).trans (BgO.out.alloc _))
 have HRa := lH_ o1
 replace HX := lH_ o2
 have HHR := lH_ hr
 clear hr o1 o2 o3
 have f1 := BgO.out.frozen 1
 have x1 := BgO.out.cell 1
 simp only [gA_, gZ_, gS_] at x1
 go_upto_region 4 with (at_builtin; go_loud (refine Kd.event_run rfl (run_append_opU (by rfl) rfl rfl HHR.out) ?_))
 replace HRc := lH_ (Kd.R_set HRc.out BgO.out (nE13_ [71] 29 rfl) 1 (.slice Va g.an.length ca))
 replace HRa := lH_ (Kd.R_set HRa.out BgO.out (nE13_ [25] 29 rfl) 1 (.slice Va g.an.length ca))
 replace BgI := lH_ (BgI.out.far (show gI ≠ gO by have := HNE.out; omega) 1 (.slice Va g.an.length ca))
 replace BgQ := lH_ (BgQ.out.far (show gQ ≠ gO by have := HNE.out; omega) 1 (.slice Va g.an.length ca))
 replace BgR := lH_ (BgR.out.far (show gR ≠ gO by have := HNE.out; omega) 1 (.slice Va g.an.length ca))
 replace HX := lH_ (bset HX.out HOW.out 1 (.slice Va g.an.length ca))
 replace BgO := lH_ (show Blk _ gO #[.slice Vc g.ct.length cc, .slice Va g.an.length ca, .int .i64 g.hang.a, .int .i64 g.hang.b, .int .i64 g.hang.c, .int .i64 g.adv, .slice N3 g.dl.length n3, .slice N4 g.pr.length n4] 29 from BgO.out.put 1 (.slice Va g.an.length ca) rfl)
 clear hgu HHR t1 f1 x1
 generalize World.setCell _ _ _ = w6 at *
 have t6 := BgI.out.cell 6
 simp only [gA_, gZ_, gS_] at t6
 have hgu : gI < w6.heap.size := BgI.out.lt
 obtain ⟨vv, v7, hr, o1, o2, o3⟩ := append_all (d := (view w kDl)) (w0 := w) (w := w6.alloc (.cells #[] 59)) 26 59 _ 40 (by kernel_rfl) infoDl rfl (show 0 < (kDl).sz from by decide) (by omega) (fun h => h) (R_empty ((view w kDl)) 59 HX.out.size) (bthen' HX.out (below_alloc (Below.refl _ w6) _)) (Nat.le_trans HX.out.size (by simp)) N3 n3 (C_view HG.out.dl (bthen' HX.out (below_alloc (Below.refl _ w6) _))) (by have := HL.out.2.2; simp only [List.length_nil]; omega)
 rw [List.nil_append] at o1
 obtain ⟨Vd, cd, rfl⟩ := Kd.R_slice o1
 replace HRc := lH_ (Kd.R_mono (Kd.R_grown (Kd.R_below (Kd.R_bound HRc.out) (below_alloc (Below.refl _ w6) _)) o3 (fun k_ h_ e_ => by cases e_; exact Nat.lt_irrefl _ h_.2.2.1)) (fun _ h_ => h_.1))
 replace HRa := lH_ (Kd.R_mono (Kd.R_grown (Kd.R_below (Kd.R_bound HRa.out) (below_alloc (Below.refl _ w6) _)) o3 (fun k_ h_ e_ => by cases e_; exact Nat.lt_irrefl _ h_.2.2.1)) (fun _ h_ => h_.1))
 replace BgI := lH_ (show Blk v7 gI _ _ from (o3.block gI (BgI.out.alloc _).lt (fun e_ => by cases e_; exact Nat.lt_irrefl _ BgI.out.lt)).trans (BgI.out.alloc _))
 replace BgQ := lH_ (show Blk v7 gQ _ _ from (o3.block gQ (BgQ.out.alloc _).lt (fun e_ => by cases e_; exact Nat.lt_irrefl _ BgQ.out.lt)).trans (BgQ.out.alloc _))
 replace BgR := lH_ (show Blk v7 gR _ _ from (o3.block gR (BgR.out.alloc _).lt (fun e_ => by cases e_; exact Nat.lt_irrefl _ BgR.out.lt)).trans (BgR.out.alloc _))
 replace BgO := lH_ (show Blk v7 gO _ _ from (o3.block gO (BgO.out.alloc _).lt (fun e_ => by cases e_; exact Nat.lt_irrefl _ BgO.out.lt)).trans (BgO.out.alloc _))
 have HRd := lH_ o1
 replace HX := lH_ o2
 have HHR := lH_ hr
 clear hr o1 o2 o3
 have f6 := BgO.out.frozen 6
 have x6 := BgO.out.cell 6
 simp only [gA_, gZ_, gS_] at x6
 go_upto_region 5 with (at_builtin; go_loud (refine Kd.event_run rfl (run_append_opU (by rfl) rfl rfl HHR.out) ?_))
 replace HRc := lH_ (Kd.R_set HRc.out BgO.out (nE13_ [71] 29 rfl) 6 (.slice Vd g.dl.length cd))
 replace HRa := lH_ (Kd.R_set HRa.out BgO.out (nE13_ [25] 29 rfl) 6 (.slice Vd g.dl.length cd))
 replace HRd := lH_ (Kd.R_set HRd.out BgO.out (nE13_ [59] 29 rfl) 6 (.slice Vd g.dl.length cd))
 replace BgI := lH_ (BgI.out.far (show gI ≠ gO by have := HNE.out; omega) 6 (.slice Vd g.dl.length cd))
 replace BgQ := lH_ (BgQ.out.far (show gQ ≠ gO by have := HNE.out; omega) 6 (.slice Vd g.dl.length cd))
 replace BgR := lH_ (BgR.out.far (show gR ≠ gO by have := HNE.out; omega) 6 (.slice Vd g.dl.length cd))
 replace HX := lH_ (bset HX.out HOW.out 6 (.slice Vd g.dl.length cd))
 replace BgO := lH_ (show Blk _ gO #[.slice Vc g.ct.length cc, .slice Va g.an.length ca, .int .i64 g.hang.a, .int .i64 g.hang.b, .int .i64 g.hang.c, .int .i64 g.adv, .slice Vd g.dl.length cd, .slice N4 g.pr.length n4] 29 from BgO.out.put 6 (.slice Vd g.dl.length cd) rfl)
 clear hgu HHR t6 f6 x6
 generalize World.setCell _ _ _ = w7 at *
 have t1 := BgQ.out.cell 1
 simp only [gA_, gZ_, gS_] at t1
 go_wp2_with fail
 refine (rmod_any q1 8 w7 (by omega) (by omega)).mono ?_
 rintro e w8 ⟨rfl, rfl⟩
 clear t1
 obtain ⟨n, hn⟩ : ∃ n, q1 % 8 = n := ⟨_, rfl⟩
 have HN := lH_ (show 0 ≤ n ∧ n ≤ 7 by omega)
 rw [hn]
 clear hn
 obtain ⟨far, hfar⟩ := far_at n HN.out
 have t0 := BgQ.out.cell 0
 simp only [gA_, gZ_, gS_] at t0
 go_wp2_with fail
 refine (rmod_any q0 14 w7 (by omega) (by omega)).mono ?_
 rintro e w8 ⟨rfl, rfl⟩
 clear t0 hfar
 obtain ⟨m, hm⟩ : ∃ m, q0 % 14 = m := ⟨_, rfl⟩
 have HM := lH_ (show 11 ≤ m ∧ m ≤ 13 by have := HQ.out; omega)
 rw [hm]
 clear hm
 have HRW := lH_ (show w.heap.size ≤ gR by have := EgR.out; omega)
 have HRV := HRc
 have HRW_ := HRd
 replace HRc := lH_ (R_mix HRc.out)
 replace HRd := lH_ (R_mix HRd.out)
 go_upto_block 0 with fail
 go_cut [] (fun wx => ∃ (ct : List (List Pt)) (Vc : Option Addr) (cc : Nat) (an : List I3) (Va : Option Addr) (ca : Nat) (dl : List Dl) (Vd : Option Addr) (cd : Nat) (hang : I3) (adv : Int), Hid (Kd.R (mix w kCt) 71 wx w.heap.size (fun _ => True) (.slice Vc ct.length cc) ct) ∧ Hid (Kd.R kI3 25 wx w.heap.size (fun _ => True) (.slice Va an.length ca) an) ∧ Hid (Kd.R (mix w kDl) 59 wx w.heap.size (fun _ => True) (.slice Vd dl.length cd) dl) ∧ Hid (Blk wx gO #[.slice Vc ct.length cc, .slice Va an.length ca, .int .i64 hang.a, .int .i64 hang.b, .int .i64 hang.c, .int .i64 adv, .slice Vd dl.length cd, .slice N4 g.pr.length n4] 29) ∧ Hid (Blk wx gR #[.slice none 0 0, .slice none 0 0, .int .i64 0, .int .i64 0, .int .i64 0, .int .i64 0, .slice none 0 0, .slice none 0 0] 29) ∧ Hid (Below w.heap.size w wx))
 case first =>
  obtain h | h | h : m = 11 ∨ m = 12 ∨ m = 13 := by have := HM.out; omega
  ·subst h
   by_cases h0 : 0 < g.dl.length
   ·have d1 : decide (0 < g.dl.length) = true := decide_eq_true (by omega)
    have d1_ : decide ((0 : Int) < (g.dl.length : Int)) = true := decide_eq_true (by omega)
    obtain ⟨gV, hV_, HVb_, HVl_⟩ := R_at0 HRd.out h0
    obtain ⟨av, hav_⟩ : ∃ a_ : Addr, a_ = ⟨gV, 0, none⟩ := ⟨_, rfl⟩
    rw [← hav_] at hV_
    subst hV_
    have HAv := lH_ hav_
    have HBv := lH_ HVb_
    clear hav_ HVb_ HVl_
    obtain ⟨ad_, c0_, c1_, c2_, hA_, hK, p0, p1, p2⟩ := el3 (d := mix w kDl) rfl (Sc_len8 HRd.out) zDl 0 h0
    obtain rfl : av = ad_ := by injection hA_
    rw [show av.add (0 * 3) = av from by rw [HAv.out]; rfl] at p0 p1 p2
    obtain ⟨Ai, ci, hcs, hcl, hM⟩ := kDl_open (show kDl.K w7 (g.dl.getD 0 zDl) [c0_, c1_, c2_] from Or.elim hK (kDl.K_below HX.out) id)
    simp only [List.cons.injEq, and_true] at hcs
    obtain ⟨rfl, rfl, rfl⟩ := hcs
    have hcb := HL4.out _ (getD_at h0 zDl)
    generalize g.dl.getD 0 zDl = d0 at *
    have HM := lH_ hM
    have HCb := lH_ hcb
    clear hM hK hA_
    have y6 := BgO.out.cell 6
    simp only [gA_, gZ_, gS_] at y6
    go_upto_region 47 with fail
    clear y6
    refine start_ (n := 14) (S := fun w' => True) (ds := []) #[false, false, false, false, false, false, false, false, false, false, false, false, false, false] (by kernel_rfl) rfl rfl trivial (fun hHeld => ?_)
    refine with_tabW oOd47.tab47 oOd47.bits47 (fun HT_ HW_ => ?_)
    have HB : Aside0 (Below w.heap.size w w7.drew) := ⟨bdrew HX.out⟩
    have HZ : Aside0 (w7.heap.size ≤ w7.drew.heap.size) := ⟨Nat.le_refl _⟩
    have BO : Aside0 (Blk w7.drew gO #[.slice Vc g.ct.length cc, .slice Va g.an.length ca, .int .i64 g.hang.a, .int .i64 g.hang.b, .int .i64 g.hang.c, .int .i64 g.adv, .slice (some av) g.dl.length cd, .slice N4 g.pr.length n4] 29) := ⟨BgO.out.drew⟩
    have BI : Aside0 (Blk w7.drew gI #[.slice N1 g.ct.length n1, .slice N2 g.an.length n2, .int .i64 g.hang.a, .int .i64 g.hang.b, .int .i64 g.hang.c, .int .i64 g.adv, .slice N3 g.dl.length n3, .slice N4 g.pr.length n4] 29) := ⟨BgI.out.drew⟩
    have BR : Aside0 (Blk w7.drew gR #[.slice none 0 0, .slice none 0 0, .int .i64 0, .int .i64 0, .int .i64 0, .int .i64 0, .slice none 0 0, .slice none 0 0] 29) := ⟨BgR.out.drew⟩
    have RA : Aside0 (Kd.R kI3 25 w7.drew w.heap.size (fun _ => True) (.slice Va g.an.length ca) g.an) := ⟨Kd.R_below HRa.out (below_drew (Below.refl _ _))⟩
    have RC : Aside0 (Kd.R (mix w kCt) 71 w7.drew w.heap.size (fun _ => True) (.slice Vc g.ct.length cc) g.ct) := ⟨Kd.R_below HRc.out (below_drew (Below.refl _ _))⟩
    have RD : Aside0 (Kd.R (mix w kDl) 59 w7.drew w.heap.size (fun k_ => k_ < w7.heap.size) (.slice (some av) g.dl.length cd) g.dl) := ⟨Kd.R_below (Kd.R_mono (Kd.R_bound HRd.out) (fun _ h_ => h_.2.2.1)) (below_drew (Below.refl _ _))⟩
    have HP : Aside0 (w7.drew.cell? ⟨av.block, av.off + 2, none⟩ = some (.slice Ai d0.moves.length ci)) := ⟨pw_cell_below (below_drew (Below.refl _ _)) p2⟩
    have HW : Aside0 (Below w7.heap.size w7 w7.drew) := ⟨below_drew (Below.refl _ _)⟩
    generalize hwd : w7.drew = w1' at *
    clear hwd
    refine inv_at [0, 1, 2, 3, 4, 5, 6, 7, 8, 9, 10, 11, 12, 13] (fun a0_ b a w' => ∃ (g4 : Nat) (Ve : Option Addr) (ce : Nat) (xsn : List Dl) (m4_ : Value) (m10_ : Value), a = putSel a0_ b [(0, 218, .pointer (some ⟨gO, 6, none⟩)), (1, 219, .slice (some av) g.dl.length cd), (2, 220, .int .i64 n), (3, 221, .agg #[.int .i64 n, .int .i64 0]), (4, 222, m4_), (5, 223, .pointer (some ⟨gO, 6, none⟩)), (6, 224, .slice (some av) g.dl.length cd), (7, 225, .pointer (some av)), (8, 226, .pointer (some ⟨av.block, av.off + 2, none⟩)), (9, 227, .slice Ai d0.moves.length ci), (10, 228, m10_), (11, 229, .pointer (some av)), (12, 230, .pointer (some ⟨av.block, av.off + 2, none⟩))] ∧ (Below w.heap.size w w') ∧ (w7.heap.size ≤ w'.heap.size) ∧ (Blk w' gO #[.slice Vc g.ct.length cc, .slice Va g.an.length ca, .int .i64 g.hang.a, .int .i64 g.hang.b, .int .i64 g.hang.c, .int .i64 g.adv, .slice (some av) g.dl.length cd, .slice N4 g.pr.length n4] 29) ∧ (Blk w' gI #[.slice N1 g.ct.length n1, .slice N2 g.an.length n2, .int .i64 g.hang.a, .int .i64 g.hang.b, .int .i64 g.hang.c, .int .i64 g.adv, .slice N3 g.dl.length n3, .slice N4 g.pr.length n4] 29) ∧ (Blk w' gR #[.slice none 0 0, .slice none 0 0, .int .i64 0, .int .i64 0, .int .i64 0, .int .i64 0, .slice none 0 0, .slice none 0 0] 29) ∧ (Kd.R kI3 25 w' w.heap.size (fun _ => True) (.slice Va g.an.length ca) g.an) ∧ (Kd.R (mix w kCt) 71 w' w.heap.size (fun _ => True) (.slice Vc g.ct.length cc) g.ct) ∧ (b 13 = false → Kd.R (mix w kDl) 59 w' w.heap.size (fun k_ => k_ < w7.heap.size) (.slice (some av) g.dl.length cd) g.dl) ∧ (b 13 = false → w'.cell? ⟨av.block, av.off + 2, none⟩ = some (.slice Ai d0.moves.length ci)) ∧ (b 13 = false → Below w7.heap.size w7 w') ∧ (b 4 = true → b 10 = false → Kd.R kI2 62 w' w7.heap.size (fun _ => True) (.slice (some ⟨g4, 0, none⟩) 1 1) [(⟨n, 0⟩ : I2)]) ∧ (b 10 = true → b 13 = false → Kd.R kI2 62 w' w7.heap.size (fun _ => True) (.slice Ve ([(⟨n, 0⟩ : I2)] ++ d0.moves).length ce) ([(⟨n, 0⟩ : I2)] ++ d0.moves)) ∧ (b 13 = true → xsn.length = g.dl.length ∧ Kd.R (mix w kDl) 59 w' w.heap.size (fun _ => True) (.slice (some av) g.dl.length cd) xsn) ∧ (b 4 = true → (m4_ : Value) = .slice (some ⟨g4, 0, none⟩) 1 1) ∧ (b 10 = true → (m10_ : Value) = .slice Ve ([(⟨n, 0⟩ : I2)] ++ d0.moves).length ce)) HT_.out HW_.out (by kernel_rfl) (by kernel_rfl) ?_ ?_ ?_
    ·exact ⟨0, none, 0, [], .bool false, .bool false, by simp only [putSel, Bool.false_eq_true, if_false], HB.out, HZ.out, BO.out, BI.out, BR.out, RA.out, RC.out, fun _ => RD.out, fun _ => HP.out, fun _ => HW.out, fun h_ => absurd h_ (by decide), fun h_ => absurd h_ (by decide), fun h_ => absurd h_ (by decide), fun h_ => absurd h_ (by decide), fun h_ => absurd h_ (by decide)⟩
    ·skip
     clear BI BO BR HB HP HW HZ RA RC RD
     refine steps_cons ?_ ?_
     ·rintro b a w' ⟨g4, Ve, ce, xsn, m4_, m10_, ha, QHB, QHZ, QBO, QBI, QBR, QRA, QRC, QRD, QHP, QHW, QE1, QRE, QRN, QX4_, QX10_⟩ hb_ hon hoff
      refine ⟨_, rfl, fun K hK => ?_⟩
      have e5 : a.tmps[5]? = some (.pointer (some ⟨gO, 0, none⟩)) := by rw [ha]; exact (putSel_off rfl).trans rfl
      replace ha := aM_ ha
      have HB := aM_ QHB
      have HZ := aM_ QHZ
      have BO := aM_ QBO
      have BI := aM_ QBI
      have BR := aM_ QBR
      have RA := aM_ QRA
      have RC := aM_ QRC
      have RD := aM_ (QRD (hoff 13 rfl))
      have HP := aM_ (QHP (hoff 13 rfl))
      have HW := aM_ (QHW (hoff 13 rfl))
      refine value_ (w1 := w') (v := .pointer (some ⟨gO, 6, none⟩)) (by rfl) rfl ?_ ?_
      ·go_simp
       (try simp only [i64_w])
       try rfl
       try assumption
      refine hK.out _ _ ⟨g4, Ve, ce, xsn, m4_, m10_, (by rw [ha.out]; exact putSel_upk 0 hb_ rfl rfl rfl), QHB, QHZ, QBO, QBI, QBR, QRA, QRC, QRD, QHP, QHW, QE1, QRE, dD_ (hoff 13 rfl), QX4_, QX10_⟩
     refine steps_cons ?_ ?_
     ·rintro b a w' ⟨g4, Ve, ce, xsn, m4_, m10_, ha, QHB, QHZ, QBO, QBI, QBR, QRA, QRC, QRD, QHP, QHW, QE1, QRE, QRN, QX4_, QX10_⟩ hb_ hon hoff
      refine ⟨_, rfl, fun K hK => ?_⟩
      have e218 : a.tmps[218]? = some (.pointer (some ⟨gO, 6, none⟩)) := by rw [ha]; exact putSel_on (e := (0, 218, .pointer (some ⟨gO, 6, none⟩))) 0 rfl rfl (hon 0 rfl) rfl
      replace ha := aM_ ha
      have HB := aM_ QHB
      have HZ := aM_ QHZ
      have BO := aM_ QBO
      have BI := aM_ QBI
      have BR := aM_ QBR
      have RA := aM_ QRA
      have RC := aM_ QRC
      have RD := aM_ (QRD (hoff 13 rfl))
      have HP := aM_ (QHP (hoff 13 rfl))
      have HW := aM_ (QHW (hoff 13 rfl))
      have z6 := BO.out.cell 6
      refine value_ (w1 := w') (v := .slice (some av) g.dl.length cd) (by rfl) rfl ?_ ?_
      ·go_simp
       (try simp only [i64_w])
       try rfl
       try assumption
      refine hK.out _ _ ⟨g4, Ve, ce, xsn, m4_, m10_, (by rw [ha.out]; exact putSel_upk 1 hb_ rfl rfl rfl), QHB, QHZ, QBO, QBI, QBR, QRA, QRC, QRD, QHP, QHW, QE1, QRE, dD_ (hoff 13 rfl), QX4_, QX10_⟩
     refine steps_cons ?_ ?_
     ·rintro b a w' ⟨g4, Ve, ce, xsn, m4_, m10_, ha, QHB, QHZ, QBO, QBI, QBR, QRA, QRC, QRD, QHP, QHW, QE1, QRE, QRN, QX4_, QX10_⟩ hb_ hon hoff
      refine ⟨_, rfl, fun K hK => ?_⟩
      have e6 : a.tmps[6]? = some (.int .i64 n) := by rw [ha]; exact (putSel_off rfl).trans rfl
      replace ha := aM_ ha
      have HB := aM_ QHB
      have HZ := aM_ QHZ
      have BO := aM_ QBO
      have BI := aM_ QBI
      have BR := aM_ QBR
      have RA := aM_ QRA
      have RC := aM_ QRC
      have RD := aM_ (QRD (hoff 13 rfl))
      have HP := aM_ (QHP (hoff 13 rfl))
      have HW := aM_ (QHW (hoff 13 rfl))
      refine value_ (w1 := w') (v := .int .i64 n) (by rfl) rfl ?_ ?_
      ·go_simp
       (try simp only [i64_w])
       try rfl
       try assumption
      refine hK.out _ _ ⟨g4, Ve, ce, xsn, m4_, m10_, (by rw [ha.out]; exact putSel_upk 2 hb_ rfl rfl rfl), QHB, QHZ, QBO, QBI, QBR, QRA, QRC, QRD, QHP, QHW, dD_ (hoff 4 rfl), dD_ (hoff 10 rfl), dD_ (hoff 13 rfl), dD_ (hoff 4 rfl), dD_ (hoff 10 rfl)⟩
     refine steps_cons ?_ ?_
     ·rintro b a w' ⟨g4, Ve, ce, xsn, m4_, m10_, ha, QHB, QHZ, QBO, QBI, QBR, QRA, QRC, QRD, QHP, QHW, QE1, QRE, QRN, QX4_, QX10_⟩ hb_ hon hoff
      refine ⟨_, rfl, fun K hK => ?_⟩
      have e220 : a.tmps[220]? = some (.int .i64 n) := by rw [ha]; exact putSel_on (e := (2, 220, .int .i64 n)) 2 rfl rfl (hon 2 rfl) rfl
      replace ha := aM_ ha
      have HB := aM_ QHB
      have HZ := aM_ QHZ
      have BO := aM_ QBO
      have BI := aM_ QBI
      have BR := aM_ QBR
      have RA := aM_ QRA
      have RC := aM_ QRC
      have RD := aM_ (QRD (hoff 13 rfl))
      have HP := aM_ (QHP (hoff 13 rfl))
      have HW := aM_ (QHW (hoff 13 rfl))
      refine value_ (w1 := w') (v := .agg #[.int .i64 n, .int .i64 0]) (by rfl) rfl ?_ ?_
      ·go_simp
       (try simp only [i64_w])
       try rfl
       try assumption
      refine hK.out _ _ ⟨g4, Ve, ce, xsn, m4_, m10_, (by rw [ha.out]; exact putSel_upk 3 hb_ rfl rfl rfl), QHB, QHZ, QBO, QBI, QBR, QRA, QRC, QRD, QHP, QHW, dD_ (hoff 4 rfl), dD_ (hoff 10 rfl), dD_ (hoff 13 rfl), dD_ (hoff 4 rfl), dD_ (hoff 10 rfl)⟩
     refine steps_cons ?_ ?_
     ·rintro b a w' ⟨g4, Ve, ce, xsn, m4_, m10_, ha, QHB, QHZ, QBO, QBI, QBR, QRA, QRC, QRD, QHP, QHW, QE1, QRE, QRN, QX4_, QX10_⟩ hb_ hon hoff
      refine ⟨_, rfl, fun K hK => ?_⟩
      have e221 : a.tmps[221]? = some (.agg #[.int .i64 n, .int .i64 0]) := by rw [ha]; exact putSel_on (e := (3, 221, .agg #[.int .i64 n, .int .i64 0])) 3 rfl rfl (hon 3 rfl) rfl
      replace ha := aM_ ha
      have HB := aM_ QHB
      have HZ := aM_ QHZ
      have BO := aM_ QBO
      have BI := aM_ QBI
      have BR := aM_ QBR
      have RA := aM_ QRA
      have RC := aM_ QRC
      have RD := aM_ (QRD (hoff 13 rfl))
      have HP := aM_ (QHP (hoff 13 rfl))
      have HW := aM_ (QHW (hoff 13 rfl))
      refine value_ (w1 := w'.alloc (.cells #[.int .i64 n, .int .i64 0] 62)) (v := .slice (some ⟨w'.heap.size, 0, none⟩) 1 1) (by rfl) rfl ?_ ?_
      ·go_simp
      refine hK.out _ _ ⟨w'.heap.size, Ve, ce, xsn, (.slice (some ⟨w'.heap.size, 0, none⟩) 1 1), m10_, (by rw [ha.out]; exact putSel_upk 4 hb_ rfl rfl rfl), bthen' HB.out (below_alloc (Below.refl _ w') _), Nat.le_trans HZ.out (by simp), BO.out.alloc _, BI.out.alloc _, BR.out.alloc _, Kd.R_below RA.out (below_alloc (Below.refl _ w') _), Kd.R_below RC.out (below_alloc (Below.refl _ w') _), fun _ => Kd.R_below RD.out (below_alloc (Below.refl _ w') _), fun _ => pw_cell_below (below_alloc (Below.refl _ w') _) HP.out, fun _ => bthen' HW.out (below_alloc (Below.refl _ w') _), fun _ _ => R_lit1 kI2 62 w' _ HZ.out ⟨n, 0⟩ [.int .i64 n, .int .i64 0] (kI2_mkM _ _ _ ⟨n, 0⟩), dD_ (hoff 10 rfl), dD_ (hoff 13 rfl), fun _ => rfl, dD_ (hoff 10 rfl)⟩
     refine steps_cons ?_ ?_
     ·rintro b a w' ⟨g4, Ve, ce, xsn, m4_, m10_, ha, QHB, QHZ, QBO, QBI, QBR, QRA, QRC, QRD, QHP, QHW, QE1, QRE, QRN, QX4_, QX10_⟩ hb_ hon hoff
      refine ⟨_, rfl, fun K hK => ?_⟩
      have e5 : a.tmps[5]? = some (.pointer (some ⟨gO, 0, none⟩)) := by rw [ha]; exact (putSel_off rfl).trans rfl
      replace ha := aM_ ha
      have HB := aM_ QHB
      have HZ := aM_ QHZ
      have BO := aM_ QBO
      have BI := aM_ QBI
      have BR := aM_ QBR
      have RA := aM_ QRA
      have RC := aM_ QRC
      have RD := aM_ (QRD (hoff 13 rfl))
      have HP := aM_ (QHP (hoff 13 rfl))
      have HW := aM_ (QHW (hoff 13 rfl))
      refine value_ (w1 := w') (v := .pointer (some ⟨gO, 6, none⟩)) (by rfl) rfl ?_ ?_
      ·go_simp
       (try simp only [i64_w])
       try rfl
       try assumption
      refine hK.out _ _ ⟨g4, Ve, ce, xsn, m4_, m10_, (by rw [ha.out]; exact putSel_upk 5 hb_ rfl rfl rfl), QHB, QHZ, QBO, QBI, QBR, QRA, QRC, QRD, QHP, QHW, QE1, dD_ (hoff 10 rfl), dD_ (hoff 13 rfl), QX4_, dD_ (hoff 10 rfl)⟩
     refine steps_cons ?_ ?_
     ·rintro b a w' ⟨g4, Ve, ce, xsn, m4_, m10_, ha, QHB, QHZ, QBO, QBI, QBR, QRA, QRC, QRD, QHP, QHW, QE1, QRE, QRN, QX4_, QX10_⟩ hb_ hon hoff
      refine ⟨_, rfl, fun K hK => ?_⟩
      have e223 : a.tmps[223]? = some (.pointer (some ⟨gO, 6, none⟩)) := by rw [ha]; exact putSel_on (e := (5, 223, .pointer (some ⟨gO, 6, none⟩))) 5 rfl rfl (hon 5 rfl) rfl
      replace ha := aM_ ha
      have HB := aM_ QHB
      have HZ := aM_ QHZ
      have BO := aM_ QBO
      have BI := aM_ QBI
      have BR := aM_ QBR
      have RA := aM_ QRA
      have RC := aM_ QRC
      have RD := aM_ (QRD (hoff 13 rfl))
      have HP := aM_ (QHP (hoff 13 rfl))
      have HW := aM_ (QHW (hoff 13 rfl))
      have z6 := BO.out.cell 6
      refine value_ (w1 := w') (v := .slice (some av) g.dl.length cd) (by rfl) rfl ?_ ?_
      ·go_simp
       (try simp only [i64_w])
       try rfl
       try assumption
      refine hK.out _ _ ⟨g4, Ve, ce, xsn, m4_, m10_, (by rw [ha.out]; exact putSel_upk 6 hb_ rfl rfl rfl), QHB, QHZ, QBO, QBI, QBR, QRA, QRC, QRD, QHP, QHW, QE1, dD_ (hoff 10 rfl), dD_ (hoff 13 rfl), QX4_, dD_ (hoff 10 rfl)⟩
     refine steps_cons ?_ ?_
     ·rintro b a w' ⟨g4, Ve, ce, xsn, m4_, m10_, ha, QHB, QHZ, QBO, QBI, QBR, QRA, QRC, QRD, QHP, QHW, QE1, QRE, QRN, QX4_, QX10_⟩ hb_ hon hoff
      refine ⟨_, rfl, fun K hK => ?_⟩
      have e224 : a.tmps[224]? = some (.slice (some av) g.dl.length cd) := by rw [ha]; exact putSel_on (e := (6, 224, .slice (some av) g.dl.length cd)) 6 rfl rfl (hon 6 rfl) rfl
      replace ha := aM_ ha
      have HB := aM_ QHB
      have HZ := aM_ QHZ
      have BO := aM_ QBO
      have BI := aM_ QBI
      have BR := aM_ QBR
      have RA := aM_ QRA
      have RC := aM_ QRC
      have RD := aM_ (QRD (hoff 13 rfl))
      have HP := aM_ (QHP (hoff 13 rfl))
      have HW := aM_ (QHW (hoff 13 rfl))
      refine value_ (w1 := w') (v := .pointer (some av)) (by rfl) rfl ?_ ?_
      ·go_simp
       (try simp only [i64_w])
       try rfl
       try assumption
      refine hK.out _ _ ⟨g4, Ve, ce, xsn, m4_, m10_, (by rw [ha.out]; exact putSel_upk 7 hb_ rfl rfl rfl), QHB, QHZ, QBO, QBI, QBR, QRA, QRC, QRD, QHP, QHW, QE1, dD_ (hoff 10 rfl), dD_ (hoff 13 rfl), QX4_, dD_ (hoff 10 rfl)⟩
     refine steps_cons ?_ ?_
     ·rintro b a w' ⟨g4, Ve, ce, xsn, m4_, m10_, ha, QHB, QHZ, QBO, QBI, QBR, QRA, QRC, QRD, QHP, QHW, QE1, QRE, QRN, QX4_, QX10_⟩ hb_ hon hoff
      refine ⟨_, rfl, fun K hK => ?_⟩
      have e225 : a.tmps[225]? = some (.pointer (some av)) := by rw [ha]; exact putSel_on (e := (7, 225, .pointer (some av))) 7 rfl rfl (hon 7 rfl) rfl
      replace ha := aM_ ha
      have HB := aM_ QHB
      have HZ := aM_ QHZ
      have BO := aM_ QBO
      have BI := aM_ QBI
      have BR := aM_ QBR
      have RA := aM_ QRA
      have RC := aM_ QRC
      have RD := aM_ (QRD (hoff 13 rfl))
      have HP := aM_ (QHP (hoff 13 rfl))
      have HW := aM_ (QHW (hoff 13 rfl))
      refine value_ (w1 := w') (v := .pointer (some ⟨av.block, av.off + 2, none⟩)) (by rfl) rfl ?_ ?_
      ·go_simp
       (try simp only [i64_w])
       try rfl
       try assumption
      refine hK.out _ _ ⟨g4, Ve, ce, xsn, m4_, m10_, (by rw [ha.out]; exact putSel_upk 8 hb_ rfl rfl rfl), QHB, QHZ, QBO, QBI, QBR, QRA, QRC, QRD, QHP, QHW, QE1, dD_ (hoff 10 rfl), dD_ (hoff 13 rfl), QX4_, dD_ (hoff 10 rfl)⟩
     refine steps_cons ?_ ?_
     ·rintro b a w' ⟨g4, Ve, ce, xsn, m4_, m10_, ha, QHB, QHZ, QBO, QBI, QBR, QRA, QRC, QRD, QHP, QHW, QE1, QRE, QRN, QX4_, QX10_⟩ hb_ hon hoff
      refine ⟨_, rfl, fun K hK => ?_⟩
      have e226 : a.tmps[226]? = some (.pointer (some ⟨av.block, av.off + 2, none⟩)) := by rw [ha]; exact putSel_on (e := (8, 226, .pointer (some ⟨av.block, av.off + 2, none⟩))) 8 rfl rfl (hon 8 rfl) rfl
      replace ha := aM_ ha
      have HB := aM_ QHB
      have HZ := aM_ QHZ
      have BO := aM_ QBO
      have BI := aM_ QBI
      have BR := aM_ QBR
      have RA := aM_ QRA
      have RC := aM_ QRC
      have RD := aM_ (QRD (hoff 13 rfl))
      have HP := aM_ (QHP (hoff 13 rfl))
      have HW := aM_ (QHW (hoff 13 rfl))
      have zp := HP.out
      refine value_ (w1 := w') (v := .slice Ai d0.moves.length ci) (by rfl) rfl ?_ ?_
      ·go_simp
       (try simp only [i64_w])
       try rfl
       try assumption
      refine hK.out _ _ ⟨g4, Ve, ce, xsn, m4_, m10_, (by rw [ha.out]; exact putSel_upk 9 hb_ rfl rfl rfl), QHB, QHZ, QBO, QBI, QBR, QRA, QRC, QRD, QHP, QHW, QE1, dD_ (hoff 10 rfl), dD_ (hoff 13 rfl), QX4_, dD_ (hoff 10 rfl)⟩
     refine steps_cons ?_ ?_
     ·rintro b a w' ⟨g4, Ve, ce, xsn, m4_, m10_, ha, QHB, QHZ, QBO, QBI, QBR, QRA, QRC, QRD, QHP, QHW, QE1, QRE, QRN, QX4_, QX10_⟩ hb_ hon hoff
      refine ⟨_, rfl, fun K hK => ?_⟩
      have e222 : a.tmps[222]? = some (m4_) := by rw [ha]; exact putSel_on (e := (4, 222, m4_)) 4 rfl rfl (hon 4 rfl) rfl
      rw [QX4_ (hon 4 rfl)] at e222
      have e227 : a.tmps[227]? = some (.slice Ai d0.moves.length ci) := by rw [ha]; exact putSel_on (e := (9, 227, .slice Ai d0.moves.length ci)) 9 rfl rfl (hon 9 rfl) rfl
      replace ha := aM_ ha
      have HB := aM_ QHB
      have HZ := aM_ QHZ
      have BO := aM_ QBO
      have BI := aM_ QBI
      have BR := aM_ QBR
      have RA := aM_ QRA
      have RC := aM_ QRC
      have RD := aM_ (QRD (hoff 13 rfl))
      have HP := aM_ (QHP (hoff 13 rfl))
      have HW := aM_ (QHW (hoff 13 rfl))
      have E1 := aM_ (QE1 (hon 4 rfl) hb_)
      obtain ⟨vv, w2, hr, o1, o2, o3⟩ := append_all 57 62 _ 16 (by kernel_rfl) infoMv rfl (by decide) (by omega) (fun h => h) E1.out (Below.refl _ _) HZ.out Ai ci (Kd.C_below HM.out HW.out) (by have := HCb.out; simp only [List.length_singleton]; omega)
      obtain ⟨vA, vc, rfl⟩ := Kd.R_slice o1
      refine value_ (w1 := w2) (v := .slice vA ([(⟨n, 0⟩ : I2)] ++ d0.moves).length vc) (by rfl) rfl ?_ ?_
      ·exact run_append_opU (by rfl) e222 e227 hr
      refine hK.out _ _ ⟨g4, vA, vc, xsn, m4_, (.slice vA ([(⟨n, 0⟩ : I2)] ++ d0.moves).length vc), (by rw [ha.out]; exact putSel_upk 10 hb_ rfl rfl rfl), HB.out.trans (o2.mono HX.out.size), Nat.le_trans HZ.out (grown_size o3), (o3.block gO BO.out.lt (Kd.R_ne E1.out BO.out (by decide))).trans BO.out, (o3.block gI BI.out.lt (Kd.R_ne E1.out BI.out (by decide))).trans BI.out, (o3.block gR BR.out.lt (Kd.R_ne E1.out BR.out (by decide))).trans BR.out, R_grown_types RA.out E1.out (by decide) o3, R_grown_types RC.out E1.out (nE13_ [71, 73] 62 rfl) o3, fun _ => Kd.R_grown RD.out o3 (fun k_ h_ e_ => by have h1_ := (Kd.R_bound E1.out).1 k_ e_.symm; have h2_ := h1_.2.1; omega), fun _ => cell_grown o3 HP.out (fun e_ => by have h1_ := (Kd.R_bound E1.out).1 _ e_.symm; have h2_ := h1_.2.1; have h3_ := (Kd.R_bound RD.out).1 _ (by rw [HAv.out]; rfl); rw [HAv.out] at h2_; have h4_ : gV < w7.heap.size := h3_.1; have h5_ : w7.heap.size ≤ gV := h2_; omega), fun _ => HW.out.trans o2, fun _ => dE_ (up_self b 10), fun _ _ => o1, dD_ (hoff 13 rfl), QX4_, fun _ => rfl⟩
     refine steps_cons ?_ ?_
     ·rintro b a w' ⟨g4, Ve, ce, xsn, m4_, m10_, ha, QHB, QHZ, QBO, QBI, QBR, QRA, QRC, QRD, QHP, QHW, QE1, QRE, QRN, QX4_, QX10_⟩ hb_ hon hoff
      refine ⟨_, rfl, fun K hK => ?_⟩
      have e219 : a.tmps[219]? = some (.slice (some av) g.dl.length cd) := by rw [ha]; exact putSel_on (e := (1, 219, .slice (some av) g.dl.length cd)) 1 rfl rfl (hon 1 rfl) rfl
      replace ha := aM_ ha
      have HB := aM_ QHB
      have HZ := aM_ QHZ
      have BO := aM_ QBO
      have BI := aM_ QBI
      have BR := aM_ QBR
      have RA := aM_ QRA
      have RC := aM_ QRC
      have RD := aM_ (QRD (hoff 13 rfl))
      have HP := aM_ (QHP (hoff 13 rfl))
      have HW := aM_ (QHW (hoff 13 rfl))
      have RE := aM_ (QRE (hon 10 rfl) (hoff 13 rfl))
      refine value_ (w1 := w') (v := .pointer (some av)) (by rfl) rfl ?_ ?_
      ·go_simp
       (try simp only [i64_w])
       try rfl
       try assumption
      refine hK.out _ _ ⟨g4, Ve, ce, xsn, m4_, m10_, (by rw [ha.out]; exact putSel_upk 11 hb_ rfl rfl rfl), QHB, QHZ, QBO, QBI, QBR, QRA, QRC, QRD, QHP, QHW, fun _ => dE_ (hon 10 rfl), QRE, dD_ (hoff 13 rfl), QX4_, QX10_⟩
     refine steps_cons ?_ ?_
     ·rintro b a w' ⟨g4, Ve, ce, xsn, m4_, m10_, ha, QHB, QHZ, QBO, QBI, QBR, QRA, QRC, QRD, QHP, QHW, QE1, QRE, QRN, QX4_, QX10_⟩ hb_ hon hoff
      refine ⟨_, rfl, fun K hK => ?_⟩
      have e229 : a.tmps[229]? = some (.pointer (some av)) := by rw [ha]; exact putSel_on (e := (11, 229, .pointer (some av))) 11 rfl rfl (hon 11 rfl) rfl
      replace ha := aM_ ha
      have HB := aM_ QHB
      have HZ := aM_ QHZ
      have BO := aM_ QBO
      have BI := aM_ QBI
      have BR := aM_ QBR
      have RA := aM_ QRA
      have RC := aM_ QRC
      have RD := aM_ (QRD (hoff 13 rfl))
      have HP := aM_ (QHP (hoff 13 rfl))
      have HW := aM_ (QHW (hoff 13 rfl))
      have RE := aM_ (QRE (hon 10 rfl) (hoff 13 rfl))
      refine value_ (w1 := w') (v := .pointer (some ⟨av.block, av.off + 2, none⟩)) (by rfl) rfl ?_ ?_
      ·go_simp
       (try simp only [i64_w])
       try rfl
       try assumption
      refine hK.out _ _ ⟨g4, Ve, ce, xsn, m4_, m10_, (by rw [ha.out]; exact putSel_upk 12 hb_ rfl rfl rfl), QHB, QHZ, QBO, QBI, QBR, QRA, QRC, QRD, QHP, QHW, fun _ => dE_ (hon 10 rfl), QRE, dD_ (hoff 13 rfl), QX4_, QX10_⟩
     refine steps_cons ?_ ?_
     ·rintro b a w' ⟨g4, Ve, ce, xsn, m4_, m10_, ha, QHB, QHZ, QBO, QBI, QBR, QRA, QRC, QRD, QHP, QHW, QE1, QRE, QRN, QX4_, QX10_⟩ hb_ hon hoff
      refine ⟨_, rfl, fun K hK => ?_⟩
      have e230 : a.tmps[230]? = some (.pointer (some ⟨av.block, av.off + 2, none⟩)) := by rw [ha]; exact putSel_on (e := (12, 230, .pointer (some ⟨av.block, av.off + 2, none⟩))) 12 rfl rfl (hon 12 rfl) rfl
      have e228 : a.tmps[228]? = some (m10_) := by rw [ha]; exact putSel_on (e := (10, 228, m10_)) 10 rfl rfl (hon 10 rfl) rfl
      rw [QX10_ (hon 10 rfl)] at e228
      replace ha := aM_ ha
      have HB := aM_ QHB
      have HZ := aM_ QHZ
      have BO := aM_ QBO
      have BI := aM_ QBI
      have BR := aM_ QBR
      have RA := aM_ QRA
      have RC := aM_ QRC
      have RD := aM_ (QRD hb_)
      have HP := aM_ (QHP hb_)
      have HW := aM_ (QHW hb_)
      have RE := aM_ (QRE (hon 10 rfl) hb_)
      have hC := Kd.R_mono RD.out (fun _ _ => trivial)
      rw [HAv.out] at hC
      have ea : (⟨av.block, av.off + 2, none⟩ : Addr) = ⟨gV, 0 * (mix w kDl).sz + 2, none⟩ := by rw [HAv.out]; rfl
      have HRq := R_apart (Kd.R_lower RE.out HX.out.size) hC (nE13_ [62] 59 rfl)
      obtain ⟨ys_, hy1, o1, o3⟩ := R_put1M hC zDl 0 2 h0 (show 2 < 3 from by decide) (.slice Ve ([(⟨n, 0⟩ : I2)] ++ d0.moves).length ce) (fun cs hc => ⟨(⟨(g.dl.getD 0 zDl).region, (g.dl.getD 0 zDl).adv, ([(⟨n, 0⟩ : I2)] ++ d0.moves)⟩ : Dl), by
         rcases hc with hc | hc
         ·obtain ⟨A_, c_, e_, h1_, h2_⟩ := kDl_open hc
          subst e_
          exact Or.inr (kDlM_mk (x := ⟨_, _, ([(⟨n, 0⟩ : I2)] ++ d0.moves)⟩) HRq)
         ·obtain ⟨v_, e_, h1_⟩ := kDlM_open hc
          subst e_
          exact Or.inr (kDlM_mk (x := ⟨_, _, ([(⟨n, 0⟩ : I2)] ++ d0.moves)⟩) HRq)⟩)
      have zp := HP.out
      have fz : w'.frozen? ⟨av.block, av.off + 2, none⟩ = false := by rw [ea]; exact R_frozen hC _
      rw [← ea, ← HAv.out] at o1
      rw [← ea] at o3
      clear ea
      refine skip_ (w1 := w'.setCell ⟨av.block, av.off + 2, none⟩ (.slice Ve ([(⟨n, 0⟩ : I2)] ++ d0.moves).length ce)) (by rfl) rfl ?_ ?_
      ·go_simp
      refine hK.out _ _ ⟨g4, Ve, ce, ys_, m4_, m10_, (by rw [ha.out]; exact putSel_none (v := undef) rfl), bset HB.out (show w.heap.size ≤ av.block by rw [HAv.out]; exact HBv.out) _ _, Nat.le_trans HZ.out (by simp), (o3.block gO BO.out.lt (Kd.R_ne hC BO.out (by decide))).trans BO.out, (o3.block gI BI.out.lt (Kd.R_ne hC BI.out (by decide))).trans BI.out, (o3.block gR BR.out.lt (Kd.R_ne hC BR.out (by decide))).trans BR.out, R_grown_types RA.out hC (nE13_ [25] 59 rfl) o3, R_grown_types RC.out hC (nE13_ [71, 73] 59 rfl) o3, dE_ (up_self b 13), dE_ (up_self b 13), dE_ (up_self b 13), fun _ => dE_ (hon 10 rfl), fun _ => dE_ (up_self b 13), fun _ => ⟨hy1, o1⟩, QX4_, QX10_⟩
     exact steps_nil
    ·rintro b a w' hall ⟨g4, Ve, ce, xsn, m4_, m10_, ha, QHB, QHZ, QBO, QBI, QBR, QRA, QRC, QRD, QHP, QHW, QE1, QRE, QRN, QX4_, QX10_⟩
     clear BI BO BR HB HP HW HZ RA RC RD
     have hb0_ := hall 0 (by kernel_rfl)
     have hb1_ := hall 1 (by kernel_rfl)
     have hb2_ := hall 2 (by kernel_rfl)
     have hb3_ := hall 3 (by kernel_rfl)
     have hb4_ := hall 4 (by kernel_rfl)
     have hb5_ := hall 5 (by kernel_rfl)
     have hb6_ := hall 6 (by kernel_rfl)
     have hb7_ := hall 7 (by kernel_rfl)
     have hb8_ := hall 8 (by kernel_rfl)
     have hb9_ := hall 9 (by kernel_rfl)
     have hb10_ := hall 10 (by kernel_rfl)
     have hb11_ := hall 11 (by kernel_rfl)
     have hb12_ := hall 12 (by kernel_rfl)
     have hb13_ := hall 13 (by kernel_rfl)
     subst ha
     obtain rfl := QX4_ hb4_
     obtain rfl := QX10_ hb10_
     simp only [putSel, hb0_, hb1_, hb2_, hb3_, hb4_, hb5_, hb6_, hb7_, hb8_, hb9_, hb10_, hb11_, hb12_, hb13_, if_true, Act.put, List.setIfInBounds_toArray, List.set_cons_zero, List.set_cons_succ]
     have HB := aM_ QHB
     clear QHB
     have HZ := aM_ QHZ
     clear QHZ
     have BO := aM_ QBO
     clear QBO
     have BI := aM_ QBI
     clear QBI
     have BR := aM_ QBR
     clear QBR
     have RA := aM_ QRA
     clear QRA
     have RC := aM_ QRC
     clear QRC
     clear QRD
     clear QHP
     clear QHW
     clear QE1
     clear QRE
     have RN := aM_ (QRN hb13_)
     clear QRN
     clear hall hb0_ hb1_ hb2_ hb3_ hb4_ hb5_ hb6_ hb7_ hb8_ hb9_ hb10_ hb11_ hb12_ hb13_
     generalize w' = w9 at *
     obtain ⟨hx2, o1_⟩ := RN.out
     have HRd_ := lH_ o1_
     have BgO_ := lH_ BO.out
     rw [← hx2] at BgO_ HRd_
     have HRc_ := lH_ RC.out
     have HRa_ := lH_ RA.out
     have BgR_ := lH_ BR.out
     have HX_ := lH_ HB.out
     clear HW_ HT_
     go_wp2_with fail
     go_meet
     exact ⟨g.ct, Vc, cc, g.an, Va, ca, xsn, some av, cd, g.hang, g.adv, HRc_, HRa_, HRd_, BgO_, BgR_, HX_⟩
   ·have d1 : decide (0 < g.dl.length) = false := decide_eq_false (by omega)
    have d1_ : decide ((0 : Int) < (g.dl.length : Int)) = false := decide_eq_false (by omega)
    have y6 := BgO.out.cell 6
    simp only [gA_, gZ_, gS_] at y6
    go_wp2_with fail
    go_meet
    exact ⟨g.ct, Vc, cc, g.an, Va, ca, g.dl, Vd, cd, g.hang, g.adv, HRc, HRa, HRd, BgO, BgR, HX⟩
  ·subst h
   have y6 := BgO.out.cell 6
   simp only [gA_, gZ_, gS_] at y6
   obtain ⟨vv, w8, hr, o1, o2, o3⟩ := append_all (d := view w kDl) (w0 := w) (w := w7) 26 59 _ 40 (by kernel_rfl) infoDl rfl (show 0 < kDl.sz by decide) (by omega) (fun h => h) HRW_.out HX.out HX.out.size Vd cd (Sc_len8 HRW_.out) (by have := HL.out.2.2; omega)
   obtain ⟨A4, c4, rfl⟩ := Kd.R_slice o1
   have HHR := lH_ hr
   have H4 := lH_ (R_mix o1)
   obtain ⟨xsn, hx2⟩ : ∃ q, g.dl ++ g.dl = q := ⟨_, rfl⟩
   rw [hx2] at H4 HHR
   clear hx2
   replace BgI := lH_ (show Blk w8 gI _ _ from (o3.block gI BgI.out.lt (Kd.R_ne HRd.out BgI.out (by decide))).trans BgI.out)
   replace BgQ := lH_ (show Blk w8 gQ _ _ from (o3.block gQ BgQ.out.lt (Kd.R_ne HRd.out BgQ.out (by decide))).trans BgQ.out)
   replace BgR := lH_ (show Blk w8 gR _ _ from (o3.block gR BgR.out.lt (Kd.R_ne HRd.out BgR.out (by decide))).trans BgR.out)
   replace BgO := lH_ (show Blk w8 gO _ _ from (o3.block gO BgO.out.lt (Kd.R_ne HRd.out BgO.out (by decide))).trans BgO.out)
   replace HRc := lH_ (R_grown_types HRc.out HRd.out (nE13_ [71, 73] 59 rfl) o3)
   replace HRa := lH_ (R_grown_types HRa.out HRd.out (nE13_ [25] 59 rfl) o3)
   replace HX := lH_ o2
   have k6 := BgO.out.frozen 6
   have yy6 := BgO.out.cell 6
   simp only [gA_, gZ_, gS_] at yy6
   clear hr o1 o2 o3 HRd
   have HRd := H4
   clear H4
   go_upto_region 58 with (at_builtin; go_loud (refine Kd.event_run rfl (run_append_opU (by rfl) rfl rfl HHR.out) ?_))
   clear k6 yy6 y6 HHR
   replace HRc := lH_ (Kd.R_set HRc.out BgO.out (nE13_ [71, 73] 29 rfl) 6 (.slice A4 xsn.length c4))
   replace HRa := lH_ (Kd.R_set HRa.out BgO.out (nE13_ [25] 29 rfl) 6 (.slice A4 xsn.length c4))
   replace HRd := lH_ (Kd.R_set HRd.out BgO.out (nE13_ [59, 62] 29 rfl) 6 (.slice A4 xsn.length c4))
   replace BgI := lH_ (BgI.out.far (show gI ≠ gO by have := HNE.out; omega) 6 (.slice A4 xsn.length c4))
   replace BgQ := lH_ (BgQ.out.far (show gQ ≠ gO by have := HNE.out; omega) 6 (.slice A4 xsn.length c4))
   replace BgR := lH_ (BgR.out.far (show gR ≠ gO by have := HNE.out; omega) 6 (.slice A4 xsn.length c4))
   replace HX := lH_ (bset HX.out HOW.out 6 (.slice A4 xsn.length c4))
   replace BgO := lH_ (show Blk _ gO #[.slice Vc g.ct.length cc, .slice Va g.an.length ca, .int .i64 g.hang.a, .int .i64 g.hang.b, .int .i64 g.hang.c, .int .i64 g.adv, .slice A4 xsn.length c4, .slice N4 g.pr.length n4] 29 from BgO.out.put 6 (.slice A4 xsn.length c4) rfl)
   generalize World.setCell _ _ _ = wz at *
   go_wp2_with fail
   go_meet
   exact ⟨g.ct, Vc, cc, g.an, Va, ca, xsn, A4, c4, g.hang, g.adv, HRc, HRa, HRd, BgO, BgR, HX⟩
  ·subst h
   go_wp2_with fail
   have HXX := HX
   go_loopw [13, 12] (fun i v12 wr => ∃ (k : Nat) (ps : List Pt) (Ve : Option Addr) (ce : Nat), i = .int .i64 (k : Int) ∧ v12 = .slice Ve ps.length ce ∧ Hid ((k : Int) ≤ 28 + n) ∧ Hid (ps.length = k) ∧ Hid (w7.heap.size ≤ wr.heap.size) ∧ Hid (Below w7.heap.size w7 wr) ∧ Hid (Kd.R (mix w kCt) 71 wr w.heap.size (fun k_ => k_ < w7.heap.size) (.slice Vc g.ct.length cc) g.ct) ∧ Hid (Kd.R kPt 73 wr w7.heap.size (fun _ => True) (.slice Ve ps.length ce) ps) ∧ Hid (Kd.R (mix w kCt) 71 wr w.heap.size (fun _ => True) (.slice Vc g.ct.length cc) g.ct) ∧ Hid (Kd.R kI3 25 wr w.heap.size (fun _ => True) (.slice Va g.an.length ca) g.an) ∧ Hid (Kd.R (mix w kDl) 59 wr w.heap.size (fun _ => True) (.slice Vd g.dl.length cd) g.dl) ∧ Hid (Blk wr gI #[.slice N1 g.ct.length n1, .slice N2 g.an.length n2, .int .i64 g.hang.a, .int .i64 g.hang.b, .int .i64 g.hang.c, .int .i64 g.adv, .slice N3 g.dl.length n3, .slice N4 g.pr.length n4] 29) ∧ Hid (Blk wr gQ #[.int .i64 q0, .int .i64 q1, .int .i64 q2] 31) ∧ Hid (Blk wr gR #[.slice none 0 0, .slice none 0 0, .int .i64 0, .int .i64 0, .int .i64 0, .int .i64 0, .slice none 0 0, .slice none 0 0] 29) ∧ Hid (Blk wr gO #[.slice Vc g.ct.length cc, .slice Va g.an.length ca, .int .i64 g.hang.a, .int .i64 g.hang.b, .int .i64 g.hang.c, .int .i64 g.adv, .slice Vd g.dl.length cd, .slice N4 g.pr.length n4] 29) ∧ Hid (Below w.heap.size w wr)) (fun i _ _ => (28 + n).toNat - (intOf i).toNat)
   case atStart => exact ⟨0, [], none, 0, rfl, rfl, lH_ (by have := HN.out; omega), lH_ rfl, lH_ (Nat.le_refl _), lH_ (Below.refl _ _), lH_ (Kd.R_mono (Kd.R_bound HRc.out) (fun _ h_ => h_.2.2.1)), lH_ (Kd.R_nil _ _ _ _ _), HRc, HRa, HRd, BgI, BgQ, BgR, BgO, HX⟩
   case round =>
    clear HRc HRa HRd BgI BgQ BgR BgO HX
    obtain ⟨k, ps, Ve, ce, rfl, rfl, HK, HPL, HWX, HW7, HRcB, HRe, HRc, HRa, HRd, BgI, BgQ, BgR, BgO, HX⟩ := hrel
    have hr0 : IntKind.i64.wrap (28 + n) = 28 + n := IntWalk.i64_in _ (by have := HN.out; omega)
    have hk9 : (k : Int) ≤ 100 := by have := HK.out; have := HN.out; omega
    by_cases hlt : (k : Int) < 28 + n
    ·have d1 : decide ((k : Int) < 28 + n) = true := decide_eq_true hlt
     have HLT := lH_ hlt
     clear hlt
     obtain ⟨r7, hr7⟩ : ∃ r : Nat, k % 7 = r := ⟨_, rfl⟩
     have d7 : (k : Int).tmod 7 = (r7 : Int) := by rw [← hr7, Int.tmod_eq_emod_of_nonneg (by omega)]; omega
     have d8 : IntKind.i64.wrap (r7 : Int) = (r7 : Int) := IntWalk.i64_in _ (by omega)
     obtain ⟨r2, hr2⟩ : ∃ r : Nat, k % 2 = r := ⟨_, rfl⟩
     have d9 : (k : Int).tmod 2 = (r2 : Int) := by rw [← hr2, Int.tmod_eq_emod_of_nonneg (by omega)]; omega
     have d10 : IntKind.i64.wrap (r2 : Int) = (r2 : Int) := IntWalk.i64_in _ (by omega)
     have d11 : IntKind.i64.wrap (k : Int) = (k : Int) := IntWalk.i64_in _ (by have := HLT.out; have := HN.out; omega)
     obtain ⟨b2, hb2⟩ : ∃ b, ((r2 : Int) == 0) = b := ⟨_, rfl⟩
     clear hr7 hr2
     go_wp2_with (at_builtin; go_loud (refine Kd.R_append kPt (W := wr) (w0 := w7) w7.heap.size rfl (.tmp 247) (.tmp 255) 71 73 _ 24 rfl (by kernel_rfl) infoPt rfl (by decide) (by omega) (.slice Ve ps.length ce) ps ⟨(k : Int), (r7 : Int), b2⟩ [.int .i64 (k : Int), .int .i64 (r7 : Int), .bool b2] (fun _ => True) (fun _ => False) rfl rfl (kPt_mkM _ _ _ ⟨(k : Int), (r7 : Int), b2⟩) (fun _ h => h.elim) (fun _ _ => trivial) HRe.out HW7.out HWX.out (by have := HPL.out; have := HN.out; have := HLT.out; omega) ?_); intro v4 w8 hR4 hB4 hG4 hat4; obtain ⟨A4, c4, rfl⟩ := Kd.R_slice hR4; have HR4 := lH_ hR4; have HW7' := lH_ hB4; replace BgI := lH_ (show Blk w8 gI _ _ from (hG4.block gI BgI.out.lt (Kd.R_ne HRe.out BgI.out (by decide))).trans BgI.out); replace BgQ := lH_ (show Blk w8 gQ _ _ from (hG4.block gQ BgQ.out.lt (Kd.R_ne HRe.out BgQ.out (by decide))).trans BgQ.out); replace BgR := lH_ (show Blk w8 gR _ _ from (hG4.block gR BgR.out.lt (Kd.R_ne HRe.out BgR.out (by decide))).trans BgR.out); replace BgO := lH_ (show Blk w8 gO _ _ from (hG4.block gO BgO.out.lt (Kd.R_ne HRe.out BgO.out (by decide))).trans BgO.out); replace HRa := lH_ (R_grown_types HRa.out HRe.out (nE13_ [25] 73 rfl) hG4); replace HRd := lH_ (R_grown_types HRd.out HRe.out (nE13_ [59, 62] 73 rfl) hG4); replace HRcB := lH_ (Kd.R_grown HRcB.out hG4 (fun k_ h_ e_ => by have h1_ := (Kd.R_bound HRe.out).1 k_ e_.symm; have h2_ := h1_.2.1; omega)); replace HRc := lH_ (Kd.R_mono HRcB.out (fun _ _ => trivial)); replace HX := lH_ (bthen' HXX.out hB4); have HWX' := lH_ (Nat.le_trans HWX.out (grown_size hG4)); clear hR4 hB4 hG4 hat4)
     obtain ⟨xsn, hx2⟩ : ∃ q, ps ++ [(⟨(k : Int), (r7 : Int), b2⟩ : Pt)] = q := ⟨_, rfl⟩
     have HXL := lH_ (show xsn.length = k + 1 by rw [← hx2, List.length_append, HPL.out]; rfl)
     have hx3 : ps.length + 1 = xsn.length := by rw [HXL.out, HPL.out]
     rw [hx2] at HR4
     rw [hx3]
     clear hx2 hx3
     exact ⟨⟨k + 1, xsn, A4, c4, by go_num, rfl, lH_ (by have := HLT.out; omega), HXL, HWX', HW7', HRcB, HR4, HRc, HRa, HRd, BgI, BgQ, BgR, BgO, HX⟩, by have h1_ := HLT.out; have h2_ := HN.out; simp [intOf]; omega⟩
    ·have d1 : decide ((k : Int) < 28 + n) = false := decide_eq_false hlt
     have k0 := BgO.out.frozen 0
     have y0 := BgO.out.cell 0
     simp only [gA_, gZ_, gS_] at y0
     have hgu : gO < wr.heap.size := BgO.out.lt
     have HBb := lH_ (Blk.new wr #[.slice Ve ps.length ce] 71 rfl)
     have HRc1 := Kd.R_below HRc.out (below_alloc (Below.refl _ wr) (.cells #[.slice Ve ps.length ce] 71))
     have HPc := R_apart (Kd.R_lower HRe.out HXX.out.size) HRc.out (nE13_ [73] 71 rfl)
     obtain ⟨vv, w8, hr, o1, o2, o3⟩ := append_kd2 (w0 := w) (okp := fun j_ => True ∧ some j_ ≠ (Value.slice Vc g.ct.length cc).ownBlock) 22 71 _ 24 (by kernel_rfl) infoCt rfl (show 0 < (mix w kCt).sz from Nat.zero_lt_one) (by omega) HRc1 (bthen' HX.out (below_alloc (Below.refl _ wr) _)) (Nat.le_trans HX.out.size (by simp)) wr.heap.size ps [.slice Ve ps.length ce] HBb.out (Or.inr (⟨_, rfl, Kd.R_below HPc (below_alloc (Below.refl _ wr) _)⟩)) (fun _ h_ => h_) (by have := HL.out.1; omega)
     obtain ⟨A4, c4, rfl⟩ := Kd.R_slice o1
     have HHR := lH_ hr
     have HR4 := lH_ o1
     obtain ⟨xsn, hx2⟩ : ∃ q, g.ct ++ [ps] = q := ⟨_, rfl⟩
     rw [hx2] at HR4 HHR
     clear hx2
     replace BgI := lH_ (show Blk w8 gI _ _ from (o3.block gI (BgI.out.alloc _).lt (Kd.R_ne HRc1 (BgI.out.alloc _) (by decide))).trans (BgI.out.alloc _))
     replace BgQ := lH_ (show Blk w8 gQ _ _ from (o3.block gQ (BgQ.out.alloc _).lt (Kd.R_ne HRc1 (BgQ.out.alloc _) (by decide))).trans (BgQ.out.alloc _))
     replace BgR := lH_ (show Blk w8 gR _ _ from (o3.block gR (BgR.out.alloc _).lt (Kd.R_ne HRc1 (BgR.out.alloc _) (by decide))).trans (BgR.out.alloc _))
     replace BgO := lH_ (show Blk w8 gO _ _ from (o3.block gO (BgO.out.alloc _).lt (Kd.R_ne HRc1 (BgO.out.alloc _) (by decide))).trans (BgO.out.alloc _))
     replace HRa := lH_ (R_grown_types (Kd.R_below HRa.out (below_alloc (Below.refl _ wr) _)) HRc1 (nE13_ [25] 71 rfl) o3)
     replace HRd := lH_ (R_grown_types (Kd.R_below HRd.out (below_alloc (Below.refl _ wr) _)) HRc1 (nE13_ [59, 62] 71 rfl) o3)
     replace HX := lH_ o2
     have k0x := BgO.out.frozen 0
     have yy0 := BgO.out.cell 0
     simp only [gA_, gZ_, gS_] at yy0
     clear hr o1 o2 o3 HRc HRc1 HPc
     have HRc := HR4
     clear HR4
     go_upto_region 57 with (at_builtin; go_loud (refine Kd.event_run rfl (run_append_opU (by rfl) rfl rfl HHR.out) ?_))
     clear k0 k0x yy0 y0 HHR hgu
     replace HRc := lH_ (Kd.R_set HRc.out BgO.out (nE13_ [71, 73] 29 rfl) 0 (.slice A4 xsn.length c4))
     replace HRa := lH_ (Kd.R_set HRa.out BgO.out (nE13_ [25] 29 rfl) 0 (.slice A4 xsn.length c4))
     replace HRd := lH_ (Kd.R_set HRd.out BgO.out (nE13_ [59, 62] 29 rfl) 0 (.slice A4 xsn.length c4))
     replace BgI := lH_ (BgI.out.far (show gI ≠ gO by have := HNE.out; omega) 0 (.slice A4 xsn.length c4))
     replace BgQ := lH_ (BgQ.out.far (show gQ ≠ gO by have := HNE.out; omega) 0 (.slice A4 xsn.length c4))
     replace BgR := lH_ (BgR.out.far (show gR ≠ gO by have := HNE.out; omega) 0 (.slice A4 xsn.length c4))
     replace HX := lH_ (bset HX.out HOW.out 0 (.slice A4 xsn.length c4))
     replace BgO := lH_ (show Blk _ gO #[.slice A4 xsn.length c4, .slice Va g.an.length ca, .int .i64 g.hang.a, .int .i64 g.hang.b, .int .i64 g.hang.c, .int .i64 g.adv, .slice Vd g.dl.length cd, .slice N4 g.pr.length n4] 29 from BgO.out.put 0 (.slice A4 xsn.length c4) rfl)
     generalize World.setCell _ _ _ = w9 at *
     have k6 := BgO.out.frozen 6
     have y6 := BgO.out.cell 6
     simp only [gA_, gZ_, gS_] at y6
     go_upto_region 58 with fail
     replace HRd := lH_ (Kd.R_nil (mix w kDl) 59 (World.setCell w9 ⟨gO, 6, none⟩ (.slice none 0 0)) w.heap.size (fun _ => True))
     replace HRc := lH_ (Kd.R_set HRc.out BgO.out (nE13_ [71, 73] 29 rfl) 6 (.slice none 0 0))
     replace HRa := lH_ (Kd.R_set HRa.out BgO.out (nE13_ [25] 29 rfl) 6 (.slice none 0 0))
     replace BgI := lH_ (BgI.out.far (show gI ≠ gO by have := HNE.out; omega) 6 (.slice none 0 0))
     replace BgQ := lH_ (BgQ.out.far (show gQ ≠ gO by have := HNE.out; omega) 6 (.slice none 0 0))
     replace BgR := lH_ (BgR.out.far (show gR ≠ gO by have := HNE.out; omega) 6 (.slice none 0 0))
     replace HX := lH_ (bset HX.out HOW.out 6 (.slice none 0 0))
     replace BgO := lH_ (show Blk _ gO #[.slice A4 xsn.length c4, .slice Va g.an.length ca, .int .i64 g.hang.a, .int .i64 g.hang.b, .int .i64 g.hang.c, .int .i64 g.adv, .slice none 0 0, .slice N4 g.pr.length n4] 29 from BgO.out.put 6 (.slice none 0 0) rfl)
     clear k6 y6
     generalize World.setCell _ _ _ = wz at *
     go_wp2_with fail
     go_meet
     exact ⟨xsn, A4, c4, g.an, Va, ca, [], none, 0, g.hang, g.adv, HRc, HRa, HRd, BgO, BgR, HX⟩
 case rest =>
  obtain ⟨ct, Vc, cc, an, Va, ca, dl, Vd, cd, hang, adv, HRc, HRa, HRd, BgO, BgR, HX⟩ := hcut
  have r0 := BgO.out.cell 0
  have r1 := BgO.out.cell 1
  have r2 := BgO.out.cell 2
  have r3 := BgO.out.cell 3
  have r4 := BgO.out.cell 4
  have r5 := BgO.out.cell 5
  have r6 := BgO.out.cell 6
  have r7 := BgO.out.cell 7
  simp only [gA_, gZ_, gS_] at r0 r1 r2 r3 r4 r5 r6 r7
  have f0 := BgR.out.frozen 0
  have f1 := BgR.out.frozen 1
  have f2 := BgR.out.frozen 2
  have f3 := BgR.out.frozen 3
  have f4 := BgR.out.frozen 4
  have f5 := BgR.out.frozen 5
  have f6 := BgR.out.frozen 6
  have f7 := BgR.out.frozen 7
  have x0 := BgR.out.cell 0
  have x1 := BgR.out.cell 1
  have x2 := BgR.out.cell 2
  have x3 := BgR.out.cell 3
  have x4 := BgR.out.cell 4
  have x5 := BgR.out.cell 5
  have x6 := BgR.out.cell 6
  have x7 := BgR.out.cell 7
  simp only [gA_, gZ_, gS_] at x0 x1 x2 x3 x4 x5 x6 x7
  go_wp2_with fail
  refine bodyPost_ret (res_c (g := gR) rfl _ _ _ _ _ rfl ((((((((BgR.out.put 0 _ rfl).put 1 _ rfl).put 2 _ rfl).put 3 _ rfl).put 4 _ rfl).put 5 _ rfl).put 6 _ rfl).put 7 _ rfl) rfl Try.underlying29 (by kernel_rfl)) rfl ⟨⟨ct, an, hang, adv, dl, g.pr⟩, ⟨Vc, cc, Va, ca, Vd, cd, N4, n4⟩, rfl, ⟨C_of_mix (Sc_len8 (R_put8 HRc.out BgR.out (nE13_ [71, 73] 29 rfl) _ _ _ _ _ _ _ _)) (bset (bset (bset (bset (bset (bset (bset (bset HX.out HRW.out 0 _) HRW.out 1 _) HRW.out 2 _) HRW.out 3 _) HRW.out 4 _) HRW.out 5 _) HRW.out 6 _) HRW.out 7 _), Sc_len8 (R_put8 HRa.out BgR.out (nE13_ [25] 29 rfl) _ _ _ _ _ _ _ _), C_of_mix (Sc_len8 (R_put8 HRd.out BgR.out (nE13_ [59, 62] 29 rfl) _ _ _ _ _ _ _ _)) (bset (bset (bset (bset (bset (bset (bset (bset HX.out HRW.out 0 _) HRW.out 1 _) HRW.out 2 _) HRW.out 3 _) HRW.out 4 _) HRW.out 5 _) HRW.out 6 _) HRW.out 7 _), Kd.C_below HG.out.pr (bset (bset (bset (bset (bset (bset (bset (bset HX.out HRW.out 0 _) HRW.out 1 _) HRW.out 2 _) HRW.out 3 _) HRW.out 4 _) HRW.out 5 _) HRW.out 6 _) HRW.out 7 _), (Kd.R_reads' HRc.out).2.1, (Kd.R_reads' HRa.out).2.1, (Kd.R_reads' HRd.out).2.1, HG.out.l4⟩, (bset (bset (bset (bset (bset (bset (bset (bset HX.out HRW.out 0 _) HRW.out 1 _) HRW.out 2 _) HRW.out 3 _) HRW.out 4 _) HRW.out 5 _) HRW.out 6 _) HRW.out 7 _)⟩
/- the reference's Odd: some glyph. -/
theorem odd_any (g : Gl) (h : Hd) (q0 q1 q2 : Int) (w : World) (hg : GlR w g h) (hl : g.ct.length ≤ 1000000 ∧ g.an.length ≤ 1000000 ∧ g.dl.length ≤ 1000000) (h3 : ∀ c ∈ g.ct, 3 ≤ c.length ∧ c.length ≤ 1000000) (h4 : ∀ d ∈ g.dl, d.moves.length ≤ 1000000) : Calls Try.prog 10 #[.agg (gv g h), .agg #[.int .i64 q0, .int .i64 q1, .int .i64 q2]] w fun e w' => ∃ g' h', e = .returned (.agg (gv g' h')) ∧ GlR w' g' h' ∧ Below w.heap.size w w' := by
 have h0 := Int.emod_nonneg q0 (show (14 : Int) ≠ 0 by decide)
 have h1 := Int.emod_lt_of_pos q0 (show (0 : Int) < 14 by decide)
 by_cases ha : q0 % 14 ≤ 6
 ·exact odd_a g h q0 q1 q2 w hg hl h3 h4 ⟨h0, ha⟩
 by_cases hb : q0 % 14 ≤ 10
 ·exact odd_b g h q0 q1 q2 w hg hl h3 h4 ⟨by omega, hb⟩
 exact odd_c g h q0 q1 q2 w hg hl h3 h4 ⟨by omega, by omega⟩

end Go.Proofs.Ythpccdhmppbkfaa