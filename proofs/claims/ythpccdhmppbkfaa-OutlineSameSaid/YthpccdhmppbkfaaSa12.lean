/- OOdb: merged by wip/prune.py. -/
import Derived.Test.YthpccdhmppbkfaaSa11
/- the reference's Odd: some glyph; changes 7 to 10. -/
set_option linter.unusedVariables false
set_option linter.unusedSimpArgs false
set_option maxRecDepth 100000
set_option maxHeartbeats 16000000
namespace Go.Proofs.Ythpccdhmppbkfaa
open Go.RowKit Go.Shelf Go.Proofs.YthpccdhmppbkfaaW.PrintWords Go.Proofs.YthpccdhmppbkfaaW.PrintLast Go.Proofs.YthpccdhmppbkfaaW.PrintMore
theorem nE12_ (l : List Nat) (t : Nat) (h : (l.all fun q => !(q == t)) = true) : ∀ q, q ∈ l → q ≠ t := fun q hq e => by have := List.all_eq_true.1 h q hq; simp [e] at this
theorem odd_b (g : Gl) (h : Hd) (q0 q1 q2 : Int) (w : World) (hg : GlR w g h) (hl : g.ct.length ≤ 1000000 ∧ g.an.length ≤ 1000000 ∧ g.dl.length ≤ 1000000) (h3 : ∀ c ∈ g.ct, 3 ≤ c.length ∧ c.length ≤ 1000000) (h4 : ∀ d ∈ g.dl, d.moves.length ≤ 1000000) (hq : 7 ≤ q0 % 14 ∧ q0 % 14 ≤ 10) : Calls Try.prog 10 #[.agg (gv g h), .agg #[.int .i64 q0, .int .i64 q1, .int .i64 q2]] w fun e w' => ∃ g' h', e = .returned (.agg (gv g' h')) ∧ GlR w' g' h' ∧ Below w.heap.size w w' := by
 have HG := lH_ hg
 have HL := lH_ hl
 have HL3 := lH_ h3
 have HL4 := lH_ h4
 have HQ := lH_ hq
 clear hg hl h3 h4 hq
 obtain ⟨N1, n1, N2, n2, N3, n3, N4, n4⟩ := h
 go_enter Try.func10, Try.ntmps10
 unfold gv
 dsimp only
 go_upto_region 1 with fail
 obtain ⟨w1, gI, hw0_, hg0_, XgI_, YgI_, _⟩ := new_box w #[.slice N1 g.ct.length n1, .slice N2 g.an.length n2, .int .i64 g.hang.a, .int .i64 g.hang.b, .int .i64 g.hang.c, .int .i64 g.adv, .slice N3 g.dl.length n3, .slice N4 g.pr.length n4] 29
 obtain ⟨w2, gQ, hw1_, hg1_, XgQ_, YgQ_, _⟩ := new_box w1 #[.int .i64 q0, .int .i64 q1, .int .i64 q2] 31
 obtain ⟨w3, gR, hw2_, hg2_, XgR_, YgR_, _⟩ := new_box w2 #[.slice none 0 0, .slice none 0 0, .int .i64 0, .int .i64 0, .int .i64 0, .int .i64 0, .slice none 0 0, .slice none 0 0] 29
 have s1_ : w.heap.size + 1 = gQ := by rw [← hg1_, ← hw0_]; simp
 have s2_ : w.heap.size + 1 + 1 = gR := by rw [← hg2_, ← hw1_, ← hw0_]; simp
 rw [hw0_, hw1_, hw2_, s2_, s1_, hg0_]
 have EgI := lH_ (show gI = w.heap.size + 0 by omega)
 have EgQ := lH_ (show gQ = w.heap.size + 1 by omega)
 have EgR := lH_ (show gR = w.heap.size + 2 by omega)
 clear hw0_ hg0_ hw1_ hg1_ hw2_ hg2_ s1_ s2_
 have HXw3 := lH_ (bthen' (bthen' (YgI_.out) YgQ_.out) YgR_.out)
 have BgI := lH_ (((XgI_.out).below YgQ_.out).below YgR_.out)
 have BgQ := lH_ ((XgQ_.out).below YgR_.out)
 have BgR := lH_ (XgR_.out)
 clear XgI_ YgI_ XgQ_ YgQ_ XgR_ YgR_
 have HX := HXw3
 clear HXw3
 have t0 := BgI.out.cell 0
 have t1 := BgI.out.cell 1
 have t2 := BgI.out.cell 2
 have t3 := BgI.out.cell 3
 have t4 := BgI.out.cell 4
 have t5 := BgI.out.cell 5
 have t6 := BgI.out.cell 6
 have t7 := BgI.out.cell 7
 simp only [gA_, gZ_, gS_] at t0 t1 t2 t3 t4 t5 t6 t7
 go_upto_region 2 with fail
 clear t0 t1 t2 t3 t4 t5 t6 t7
 obtain ⟨w4, gO, hw0_, hg0_, XgO_, YgO_, _⟩ := new_box w3 #[.slice N1 g.ct.length n1, .slice N2 g.an.length n2, .int .i64 g.hang.a, .int .i64 g.hang.b, .int .i64 g.hang.c, .int .i64 g.adv, .slice N3 g.dl.length n3, .slice N4 g.pr.length n4] 29
 rw [hw0_, hg0_]
 have EgO := lH_ (show gO = w3.heap.size + 0 by omega)
 clear hw0_ hg0_
 have HXw4 := lH_ (YgO_.out)
 have BgO := lH_ (XgO_.out)
 clear XgO_ YgO_
 have HOW := lH_ (show w.heap.size ≤ gO by have := EgO.out; have := HX.out.size; omega)
 have HNE := lH_ (show gI ≠ gO ∧ gQ ≠ gO ∧ gR ≠ gO by have := EgO.out; have := BgI.out.lt; have := BgQ.out.lt; have := BgR.out.lt; omega)
 have hb := HXw4.out
 replace HX := lH_ (bthen' HX.out hb)
 replace BgI := lH_ (BgI.out.below hb)
 replace BgQ := lH_ (BgQ.out.below hb)
 replace BgR := lH_ (BgR.out.below hb)
 clear hb HXw4
 have t0 := BgI.out.cell 0
 simp only [gA_, gZ_, gS_] at t0
 have hgu : gI < w4.heap.size := BgI.out.lt
 obtain ⟨vv, v5, hr, o1, o2, o3⟩ := append_all (d := (view w kCt)) (w0 := w) (w := w4.alloc (.cells #[] 71)) 22 71 _ 24 (by kernel_rfl) infoCt rfl (show 0 < (kCt).sz from by decide) (by omega) (fun h => h) (R_empty ((view w kCt)) 71 HX.out.size) (bthen' HX.out (below_alloc (Below.refl _ w4) _)) (Nat.le_trans HX.out.size (by simp)) N1 n1 (C_view HG.out.ct (bthen' HX.out (below_alloc (Below.refl _ w4) _))) (by have := HL.out.1; simp only [List.length_nil]; omega)
 rw [List.nil_append] at o1
 obtain ⟨Vc, cc, rfl⟩ := Kd.R_slice o1
 replace BgI := lH_ (show Blk v5 gI _ _ from (o3.block gI (BgI.out.alloc _).lt (fun e_ => by cases e_; exact Nat.lt_irrefl _ BgI.out.lt)).trans (BgI.out.alloc _))
 replace BgQ := lH_ (show Blk v5 gQ _ _ from (o3.block gQ (BgQ.out.alloc _).lt (fun e_ => by cases e_; exact Nat.lt_irrefl _ BgQ.out.lt)).trans (BgQ.out.alloc _))
 replace BgR := lH_ (show Blk v5 gR _ _ from (o3.block gR (BgR.out.alloc _).lt (fun e_ => by cases e_; exact Nat.lt_irrefl _ BgR.out.lt)).trans (BgR.out.alloc _))
 replace BgO := lH_ (show Blk v5 gO _ _ from (o3.block gO (BgO.out.alloc _).lt (fun e_ => by cases e_; exact Nat.lt_irrefl _ BgO.out.lt)).trans (BgO.out.alloc _))
 have HRc := lH_ o1
 replace HX := lH_ o2
 have HHR := lH_ hr
 clear hr o1 o2 o3
 have f0 := BgO.out.frozen 0
 have x0 := BgO.out.cell 0
 simp only [gA_, gZ_, gS_] at x0
 go_upto_region 3 with (at_builtin; go_loud (refine Kd.event_run rfl (run_append_opU (by rfl) rfl rfl HHR.out) ?_))
 replace HRc := lH_ (Kd.R_set HRc.out BgO.out (nE12_ [71] 29 rfl) 0 (.slice Vc g.ct.length cc))
 replace BgI := lH_ (BgI.out.far (show gI ≠ gO by have := HNE.out; omega) 0 (.slice Vc g.ct.length cc))
 replace BgQ := lH_ (BgQ.out.far (show gQ ≠ gO by have := HNE.out; omega) 0 (.slice Vc g.ct.length cc))
 replace BgR := lH_ (BgR.out.far (show gR ≠ gO by have := HNE.out; omega) 0 (.slice Vc g.ct.length cc))
 replace HX := lH_ (bset HX.out HOW.out 0 (.slice Vc g.ct.length cc))
 replace BgO := lH_ (show Blk _ gO #[.slice Vc g.ct.length cc, .slice N2 g.an.length n2, .int .i64 g.hang.a, .int .i64 g.hang.b, .int .i64 g.hang.c, .int .i64 g.adv, .slice N3 g.dl.length n3, .slice N4 g.pr.length n4] 29 from BgO.out.put 0 (.slice Vc g.ct.length cc) rfl)
 clear hgu HHR t0 f0 x0
 generalize World.setCell _ _ _ = w5 at *
 have t1 := BgI.out.cell 1
 simp only [gA_, gZ_, gS_] at t1
 have hgu : gI < w5.heap.size := BgI.out.lt
 obtain ⟨vv, v6, hr, o1, o2, o3⟩ := append_all (d := kI3) (w0 := w) (w := w5.alloc (.cells #[] 25)) 23 25 _ 24 (by kernel_rfl) infoAn rfl (show 0 < (kI3).sz from by decide) (by omega) (fun h => h) (R_empty (kI3) 25 HX.out.size) (bthen' HX.out (below_alloc (Below.refl _ w5) _)) (Nat.le_trans HX.out.size (by simp)) N2 n2 (Kd.C_below HG.out.an (bthen' HX.out (below_alloc (Below.refl _ w5) _))) (by have := HL.out.2.1; simp only [List.length_nil]; omega)
 rw [List.nil_append] at o1
 obtain ⟨Va, ca, rfl⟩ := Kd.R_slice o1
 replace HRc := lH_ (Kd.R_mono (Kd.R_grown (Kd.R_below (Kd.R_bound HRc.out) (below_alloc (Below.refl _ w5) _)) o3 (fun k_ h_ e_ => by cases e_; exact Nat.lt_irrefl _ h_.2.2.1)) (fun _ h_ => h_.1))
 replace BgI := lH_ (show Blk v6 gI _ _ from (o3.block gI (BgI.out.alloc _).lt (fun e_ => by cases e_; exact Nat.lt_irrefl _ BgI.out.lt)).trans (BgI.out.alloc _))
 replace BgQ := lH_ (show Blk v6 gQ _ _ from (o3.block gQ (BgQ.out.alloc _).lt (fun e_ => by cases e_; exact Nat.lt_irrefl _ BgQ.out.lt)).trans (BgQ.out.alloc _))
 replace BgR := lH_ (show Blk v6 gR _ _ from (o3.block gR (BgR.out.alloc _).lt (fun e_ => by cases e_; exact Nat.lt_irrefl _ BgR.out.lt)).trans (BgR.out.alloc _))
 replace BgO := lH_ (show Blk v6 gO _ _ from (o3.block gO (BgO.out.alloc _).lt (fun e_ => by cases e_; exact Nat.lt_irrefl _ BgO.out.lt)).trans (BgO.out.alloc _))
 have HRa := lH_ o1
 replace HX := lH_ o2
 have HHR := lH_ hr
 clear hr o1 o2 o3
 have f1 := BgO.out.frozen 1
 have x1 := BgO.out.cell 1
 simp only [gA_, gZ_, gS_] at x1
 go_upto_region 4 with (at_builtin; go_loud (refine Kd.event_run rfl (run_append_opU (by rfl) rfl rfl HHR.out) ?_))
 replace HRc := lH_ (Kd.R_set HRc.out BgO.out (nE12_ [71] 29 rfl) 1 (.slice Va g.an.length ca))
 replace HRa := lH_ (Kd.R_set HRa.out BgO.out (nE12_ [25] 29 rfl) 1 (.slice Va g.an.length ca))
 replace BgI := lH_ (BgI.out.far (show gI ≠ gO by have := HNE.out; omega) 1 (.slice Va g.an.length ca))
 replace BgQ := lH_ (BgQ.out.far (show gQ ≠ gO by have := HNE.out; omega) 1 (.slice Va g.an.length ca))
 replace BgR := lH_ (BgR.out.far (show gR ≠ gO by have := HNE.out; omega) 1 (.slice Va g.an.length ca))
 replace HX := lH_ (bset HX.out HOW.out 1 (.slice Va g.an.length ca))
 replace BgO := lH_ (show Blk _ gO #[.slice Vc g.ct.length cc, .slice Va g.an.length ca, .int .i64 g.hang.a, .int .i64 g.hang.b, .int .i64 g.hang.c, .int .i64 g.adv, .slice N3 g.dl.length n3, .slice N4 g.pr.length n4] 29 from BgO.out.put 1 (.slice Va g.an.length ca) rfl)
 clear hgu HHR t1 f1 x1
 generalize World.setCell _ _ _ = w6 at *
 have t6 := BgI.out.cell 6
 simp only [gA_, gZ_, gS_] at t6
 have hgu : gI < w6.heap.size := BgI.out.lt
 obtain ⟨vv, v7, hr, o1, o2, o3⟩ := append_all (d := (view w kDl)) (w0 := w) (w := w6.alloc (.cells #[] 59)) 26 59 _ 40 (by kernel_rfl) infoDl rfl (show 0 < (kDl).sz from by decide) (by omega) (fun h => h) (R_empty ((view w kDl)) 59 HX.out.size) (bthen' HX.out (below_alloc (Below.refl _ w6) _)) (Nat.le_trans HX.out.size (by simp)) N3 n3 (C_view HG.out.dl (bthen' HX.out (below_alloc (Below.refl _ w6) _))) (by have := HL.out.2.2; simp only [List.length_nil]; omega)
 rw [List.nil_append] at o1
 obtain ⟨Vd, cd, rfl⟩ := Kd.R_slice o1
 replace HRc := lH_ (Kd.R_mono (Kd.R_grown (Kd.R_below (Kd.R_bound HRc.out) (below_alloc (Below.refl _ w6) _)) o3 (fun k_ h_ e_ => by cases e_; exact Nat.lt_irrefl _ h_.2.2.1)) (fun _ h_ => h_.1))
 replace HRa := lH_ (Kd.R_mono (Kd.R_grown (Kd.R_below (Kd.R_bound HRa.out) (below_alloc (Below.refl _ w6) _)) o3 (fun k_ h_ e_ => by cases e_; exact Nat.lt_irrefl _ h_.2.2.1)) (fun _ h_ => h_.1))
 replace BgI := lH_ (show Blk v7 gI _ _ from (o3.block gI (BgI.out.alloc _).lt (fun e_ => by cases e_; exact Nat.lt_irrefl _ BgI.out.lt)).trans (BgI.out.alloc _))
 replace BgQ := lH_ (show Blk v7 gQ _ _ from (o3.block gQ (BgQ.out.alloc _).lt (fun e_ => by cases e_; exact Nat.lt_irrefl _ BgQ.out.lt)).trans (BgQ.out.alloc _))
 replace BgR := lH_ (show Blk v7 gR _ _ from (o3.block gR (BgR.out.alloc _).lt (fun e_ => by cases e_; exact Nat.lt_irrefl _ BgR.out.lt)).trans (BgR.out.alloc _))
 replace BgO := lH_ (show Blk v7 gO _ _ from (o3.block gO (BgO.out.alloc _).lt (fun e_ => by cases e_; exact Nat.lt_irrefl _ BgO.out.lt)).trans (BgO.out.alloc _))
 have HRd := lH_ o1
 replace HX := lH_ o2
 have HHR := lH_ hr
 clear hr o1 o2 o3
 have f6 := BgO.out.frozen 6
 have x6 := BgO.out.cell 6
 simp only [gA_, gZ_, gS_] at x6
 go_upto_region 5 with (at_builtin; go_loud (refine Kd.event_run rfl (run_append_opU (by rfl) rfl rfl HHR.out) ?_))
 replace HRc := lH_ (Kd.R_set HRc.out BgO.out (nE12_ [71] 29 rfl) 6 (.slice Vd g.dl.length cd))
 replace HRa := lH_ (Kd.R_set HRa.out BgO.out (nE12_ [25] 29 rfl) 6 (.slice Vd g.dl.length cd))
 replace HRd := lH_ (Kd.R_set HRd.out BgO.out (nE12_ [59] 29 rfl) 6 (.slice Vd g.dl.length cd))
 replace BgI := lH_ (BgI.out.far (show gI ≠ gO by have := HNE.out; omega) 6 (.slice Vd g.dl.length cd))
 replace BgQ := lH_ (BgQ.out.far (show gQ ≠ gO by have := HNE.out; omega) 6 (.slice Vd g.dl.length cd))
 replace BgR := lH_ (BgR.out.far (show gR ≠ gO by have := HNE.out; omega) 6 (.slice Vd g.dl.length cd))
 replace HX := lH_ (bset HX.out HOW.out 6 (.slice Vd g.dl.length cd))
 replace BgO := lH_ (show Blk _ gO #[.slice Vc g.ct.length cc, .slice Va g.an.length ca, .int .i64 g.hang.a, .int .i64 g.hang.b, .int .i64 g.hang.c, .int .i64 g.adv, .slice Vd g.dl.length cd, .slice N4 g.pr.length n4] 29 from BgO.out.put 6 (.slice Vd g.dl.length cd) rfl)
 clear hgu HHR t6 f6 x6
 generalize World.setCell _ _ _ = w7 at *
 have t1 := BgQ.out.cell 1
 simp only [gA_, gZ_, gS_] at t1
 go_wp2_with fail
 refine (rmod_any q1 8 w7 (by omega) (by omega)).mono ?_
 rintro e w8 ⟨rfl, rfl⟩
 clear t1
 obtain ⟨n, hn⟩ : ∃ n, q1 % 8 = n := ⟨_, rfl⟩
 have HN := lH_ (show 0 ≤ n ∧ n ≤ 7 by omega)
 rw [hn]
 clear hn
 obtain ⟨far, hfar⟩ := far_at n HN.out
 have t0 := BgQ.out.cell 0
 simp only [gA_, gZ_, gS_] at t0
 go_wp2_with fail
 refine (rmod_any q0 14 w7 (by omega) (by omega)).mono ?_
 rintro e w8 ⟨rfl, rfl⟩
 clear t0 hfar
 obtain ⟨m, hm⟩ : ∃ m, q0 % 14 = m := ⟨_, rfl⟩
 have HM := lH_ (show 7 ≤ m ∧ m ≤ 10 by have := HQ.out; omega)
 rw [hm]
 clear hm
 have HRW := lH_ (show w.heap.size ≤ gR by have := EgR.out; omega)
 have HRV := HRc
 have HRW_ := HRd
 replace HRc := lH_ (R_mix HRc.out)
 replace HRd := lH_ (R_mix HRd.out)
 go_upto_block 0 with fail
 go_cut [] (fun wx => ∃ (ct : List (List Pt)) (Vc : Option Addr) (cc : Nat) (an : List I3) (Va : Option Addr) (ca : Nat) (dl : List Dl) (Vd : Option Addr) (cd : Nat) (hang : I3) (adv : Int), Hid (Kd.R (mix w kCt) 71 wx w.heap.size (fun _ => True) (.slice Vc ct.length cc) ct) ∧ Hid (Kd.R kI3 25 wx w.heap.size (fun _ => True) (.slice Va an.length ca) an) ∧ Hid (Kd.R (mix w kDl) 59 wx w.heap.size (fun _ => True) (.slice Vd dl.length cd) dl) ∧ Hid (Blk wx gO #[.slice Vc ct.length cc, .slice Va an.length ca, .int .i64 hang.a, .int .i64 hang.b, .int .i64 hang.c, .int .i64 adv, .slice Vd dl.length cd, .slice N4 g.pr.length n4] 29) ∧ Hid (Blk wx gR #[.slice none 0 0, .slice none 0 0, .int .i64 0, .int .i64 0, .int .i64 0, .int .i64 0, .slice none 0 0, .slice none 0 0] 29) ∧ Hid (Below w.heap.size w wx))
 case first =>
  obtain h | h | h | h : m = 7 ∨ m = 8 ∨ m = 9 ∨ m = 10 := by have := HM.out; omega
  ·subst h
   have k5 := BgO.out.frozen 5
   have y5 := BgO.out.cell 5
   simp only [gA_, gZ_, gS_] at y5
   go_upto_region 58 with fail
   clear k5 y5
   replace HRc := lH_ (Kd.R_set HRc.out BgO.out (nE12_ [71, 73] 29 rfl) 5 (.int .i64 far))
   replace HRa := lH_ (Kd.R_set HRa.out BgO.out (nE12_ [25] 29 rfl) 5 (.int .i64 far))
   replace HRd := lH_ (Kd.R_set HRd.out BgO.out (nE12_ [59, 62] 29 rfl) 5 (.int .i64 far))
   replace BgI := lH_ (BgI.out.far (show gI ≠ gO by have := HNE.out; omega) 5 (.int .i64 far))
   replace BgQ := lH_ (BgQ.out.far (show gQ ≠ gO by have := HNE.out; omega) 5 (.int .i64 far))
   replace BgR := lH_ (BgR.out.far (show gR ≠ gO by have := HNE.out; omega) 5 (.int .i64 far))
   replace HX := lH_ (bset HX.out HOW.out 5 (.int .i64 far))
   replace BgO := lH_ (show Blk _ gO #[.slice Vc g.ct.length cc, .slice Va g.an.length ca, .int .i64 g.hang.a, .int .i64 g.hang.b, .int .i64 g.hang.c, .int .i64 far, .slice Vd g.dl.length cd, .slice N4 g.pr.length n4] 29 from BgO.out.put 5 (.int .i64 far) rfl)
   generalize World.setCell _ _ _ = wz at *
   go_wp2_with fail
   go_meet
   exact ⟨g.ct, Vc, cc, g.an, Va, ca, g.dl, Vd, cd, g.hang, far, HRc, HRa, HRd, BgO, BgR, HX⟩
  ·subst h
   by_cases h0 : 0 < g.dl.length
   ·have d1 : decide (0 < g.dl.length) = true := decide_eq_true (by omega)
    have d1_ : decide ((0 : Int) < (g.dl.length : Int)) = true := decide_eq_true (by omega)
    obtain ⟨gV, hV_, HVb_, HVl_⟩ := R_at0 HRd.out h0
    obtain ⟨av, hav_⟩ : ∃ a_ : Addr, a_ = ⟨gV, 0, none⟩ := ⟨_, rfl⟩
    rw [← hav_] at hV_
    subst hV_
    have HAv := lH_ hav_
    have HBv := lH_ HVb_
    clear hav_ HVb_ HVl_
    obtain ⟨ad_, c0_, c1_, c2_, hA_, hK, p0, p1, p2⟩ := el3 (d := mix w kDl) rfl (Sc_len8 HRd.out) zDl 0 h0
    obtain rfl : av = ad_ := by injection hA_
    rw [show av.add (0 * 3) = av from by rw [HAv.out]; rfl] at p0 p1 p2
    obtain ⟨Ai, ci, hcs, hcl, hM⟩ := kDl_open (show kDl.K w7 (g.dl.getD 0 zDl) [c0_, c1_, c2_] from Or.elim hK (kDl.K_below HX.out) id)
    simp only [List.cons.injEq, and_true] at hcs
    obtain ⟨rfl, rfl, rfl⟩ := hcs
    have hcb := HL4.out _ (getD_at h0 zDl)
    generalize g.dl.getD 0 zDl = d0 at *
    have HM := lH_ hM
    have HCb := lH_ hcb
    clear hM hK hA_
    have fz : w7.frozen? av = false := by have h_ := HRd.out; rw [HAv.out] at h_ ⊢; exact R_frozen h_ _
    have y6 := BgO.out.cell 6
    simp only [gA_, gZ_, gS_] at y6
    have hr : IntKind.i64.wrap (n - 1) = n - 1 := IntWalk.i64_in _ (by have := HN.out; omega)
    go_upto_region 58 with fail
    have hC := HRd.out
    rw [HAv.out] at hC
    have ea : (av : Addr) = ⟨gV, 0 * (mix w kDl).sz + 0, none⟩ := by rw [HAv.out]; rfl
    obtain ⟨xsn, hx2, o1, o3⟩ := R_put1M hC zDl 0 0 h0 (show 0 < 3 from by decide) (.int .i64 (n - 1)) (fun cs hc => ⟨(⟨n - 1, (g.dl.getD 0 zDl).adv, (g.dl.getD 0 zDl).moves⟩ : Dl), by
       rcases hc with hc | hc
       ·obtain ⟨A_, c_, e_, h1_, h2_⟩ := kDl_open hc
        subst e_
        exact Or.inl (kDl_mk (x := (⟨n - 1, (g.dl.getD 0 zDl).adv, (g.dl.getD 0 zDl).moves⟩ : Dl)) h1_ h2_)
       ·obtain ⟨v_, e_, h1_⟩ := kDlM_open hc
        subst e_
        exact Or.inr (kDlM_mk (x := (⟨n - 1, (g.dl.getD 0 zDl).adv, (g.dl.getD 0 zDl).moves⟩ : Dl)) h1_)⟩)
    rw [ea]
    replace BgI := lH_ (show Blk (World.setCell _ _ _) gI _ _ from (o3.block gI BgI.out.lt (Kd.R_ne hC BgI.out (by decide))).trans BgI.out)
    replace BgQ := lH_ (show Blk (World.setCell _ _ _) gQ _ _ from (o3.block gQ BgQ.out.lt (Kd.R_ne hC BgQ.out (by decide))).trans BgQ.out)
    replace BgR := lH_ (show Blk (World.setCell _ _ _) gR _ _ from (o3.block gR BgR.out.lt (Kd.R_ne hC BgR.out (by decide))).trans BgR.out)
    replace BgO := lH_ (show Blk (World.setCell _ _ _) gO _ _ from (o3.block gO BgO.out.lt (Kd.R_ne hC BgO.out (by decide))).trans BgO.out)
    replace HRc := lH_ (R_grown_types HRc.out hC (nE12_ [71, 73] 59 rfl) o3)
    replace HRa := lH_ (R_grown_types HRa.out hC (nE12_ [25] 59 rfl) o3)
    replace HX := lH_ (bset HX.out HBv.out (0 * (mix w kDl).sz + 0) (.int .i64 (n - 1)))
    rw [← HAv.out] at o1
    rw [← hx2] at BgO o1
    clear HRd
    have HRd := lH_ o1
    clear o1 o3 hC ea p0 p1 p2 fz hx2
    generalize World.setCell _ _ _ = wz at *
    go_wp2_with fail
    go_meet
    exact ⟨g.ct, Vc, cc, g.an, Va, ca, xsn, some av, cd, g.hang, g.adv, HRc, HRa, HRd, BgO, BgR, HX⟩
   ·have d1 : decide (0 < g.dl.length) = false := decide_eq_false (by omega)
    have d1_ : decide ((0 : Int) < (g.dl.length : Int)) = false := decide_eq_false (by omega)
    have y6 := BgO.out.cell 6
    simp only [gA_, gZ_, gS_] at y6
    go_wp2_with fail
    go_meet
    exact ⟨g.ct, Vc, cc, g.an, Va, ca, g.dl, Vd, cd, g.hang, g.adv, HRc, HRa, HRd, BgO, BgR, HX⟩
  ·subst h
   by_cases h0 : 0 < g.dl.length
   ·have d1 : decide (0 < g.dl.length) = true := decide_eq_true (by omega)
    have d1_ : decide ((0 : Int) < (g.dl.length : Int)) = true := decide_eq_true (by omega)
    obtain ⟨gV, hV_, HVb_, HVl_⟩ := R_at0 HRd.out h0
    obtain ⟨av, hav_⟩ : ∃ a_ : Addr, a_ = ⟨gV, 0, none⟩ := ⟨_, rfl⟩
    rw [← hav_] at hV_
    subst hV_
    have HAv := lH_ hav_
    have HBv := lH_ HVb_
    clear hav_ HVb_ HVl_
    obtain ⟨ad_, c0_, c1_, c2_, hA_, hK, p0, p1, p2⟩ := el3 (d := mix w kDl) rfl (Sc_len8 HRd.out) zDl 0 h0
    obtain rfl : av = ad_ := by injection hA_
    rw [show av.add (0 * 3) = av from by rw [HAv.out]; rfl] at p0 p1 p2
    obtain ⟨Ai, ci, hcs, hcl, hM⟩ := kDl_open (show kDl.K w7 (g.dl.getD 0 zDl) [c0_, c1_, c2_] from Or.elim hK (kDl.K_below HX.out) id)
    simp only [List.cons.injEq, and_true] at hcs
    obtain ⟨rfl, rfl, rfl⟩ := hcs
    have hcb := HL4.out _ (getD_at h0 zDl)
    generalize g.dl.getD 0 zDl = d0 at *
    have HM := lH_ hM
    have HCb := lH_ hcb
    clear hM hK hA_
    have fz : w7.frozen? ⟨av.block, av.off + 1, none⟩ = false := by have h_ := HRd.out; rw [HAv.out] at h_ ⊢; exact R_frozen h_ _
    have y6 := BgO.out.cell 6
    simp only [gA_, gZ_, gS_] at y6
    go_upto_region 58 with fail
    have hC := HRd.out
    rw [HAv.out] at hC
    have ea : (⟨av.block, av.off + 1, none⟩ : Addr) = ⟨gV, 0 * (mix w kDl).sz + 1, none⟩ := by rw [HAv.out]; rfl
    obtain ⟨xsn, hx2, o1, o3⟩ := R_put1M hC zDl 0 1 h0 (show 1 < 3 from by decide) (.int .i64 far) (fun cs hc => ⟨(⟨(g.dl.getD 0 zDl).region, far, (g.dl.getD 0 zDl).moves⟩ : Dl), by
       rcases hc with hc | hc
       ·obtain ⟨A_, c_, e_, h1_, h2_⟩ := kDl_open hc
        subst e_
        exact Or.inl (kDl_mk (x := (⟨(g.dl.getD 0 zDl).region, far, (g.dl.getD 0 zDl).moves⟩ : Dl)) h1_ h2_)
       ·obtain ⟨v_, e_, h1_⟩ := kDlM_open hc
        subst e_
        exact Or.inr (kDlM_mk (x := (⟨(g.dl.getD 0 zDl).region, far, (g.dl.getD 0 zDl).moves⟩ : Dl)) h1_)⟩)
    rw [ea]
    replace BgI := lH_ (show Blk (World.setCell _ _ _) gI _ _ from (o3.block gI BgI.out.lt (Kd.R_ne hC BgI.out (by decide))).trans BgI.out)
    replace BgQ := lH_ (show Blk (World.setCell _ _ _) gQ _ _ from (o3.block gQ BgQ.out.lt (Kd.R_ne hC BgQ.out (by decide))).trans BgQ.out)
    replace BgR := lH_ (show Blk (World.setCell _ _ _) gR _ _ from (o3.block gR BgR.out.lt (Kd.R_ne hC BgR.out (by decide))).trans BgR.out)
    replace BgO := lH_ (show Blk (World.setCell _ _ _) gO _ _ from (o3.block gO BgO.out.lt (Kd.R_ne hC BgO.out (by decide))).trans BgO.out)
    replace HRc := lH_ (R_grown_types HRc.out hC (nE12_ [71, 73] 59 rfl) o3)
    replace HRa := lH_ (R_grown_types HRa.out hC (nE12_ [25] 59 rfl) o3)
    replace HX := lH_ (bset HX.out HBv.out (0 * (mix w kDl).sz + 1) (.int .i64 far))
    rw [← HAv.out] at o1
    rw [← hx2] at BgO o1
    clear HRd
    have HRd := lH_ o1
    clear o1 o3 hC ea p0 p1 p2 fz hx2
    generalize World.setCell _ _ _ = wz at *
    go_wp2_with fail
    go_meet
    exact ⟨g.ct, Vc, cc, g.an, Va, ca, xsn, some av, cd, g.hang, g.adv, HRc, HRa, HRd, BgO, BgR, HX⟩
   ·have d1 : decide (0 < g.dl.length) = false := decide_eq_false (by omega)
    have d1_ : decide ((0 : Int) < (g.dl.length : Int)) = false := decide_eq_false (by omega)
    have y6 := BgO.out.cell 6
    simp only [gA_, gZ_, gS_] at y6
    go_wp2_with fail
    go_meet
    exact ⟨g.ct, Vc, cc, g.an, Va, ca, g.dl, Vd, cd, g.hang, g.adv, HRc, HRa, HRd, BgO, BgR, HX⟩
  ·subst h
   by_cases h0 : 0 < g.dl.length
   ·have d1 : decide (0 < g.dl.length) = true := decide_eq_true (by omega)
    have d1_ : decide ((0 : Int) < (g.dl.length : Int)) = true := decide_eq_true (by omega)
    obtain ⟨gV, hV_, HVb_, HVl_⟩ := R_at0 HRd.out h0
    obtain ⟨av, hav_⟩ : ∃ a_ : Addr, a_ = ⟨gV, 0, none⟩ := ⟨_, rfl⟩
    rw [← hav_] at hV_
    subst hV_
    have HAv := lH_ hav_
    have HBv := lH_ HVb_
    clear hav_ HVb_ HVl_
    obtain ⟨ad_, c0_, c1_, c2_, hA_, hK, p0, p1, p2⟩ := el3 (d := mix w kDl) rfl (Sc_len8 HRd.out) zDl 0 h0
    obtain rfl : av = ad_ := by injection hA_
    rw [show av.add (0 * 3) = av from by rw [HAv.out]; rfl] at p0 p1 p2
    obtain ⟨Ai, ci, hcs, hcl, hM⟩ := kDl_open (show kDl.K w7 (g.dl.getD 0 zDl) [c0_, c1_, c2_] from Or.elim hK (kDl.K_below HX.out) id)
    simp only [List.cons.injEq, and_true] at hcs
    obtain ⟨rfl, rfl, rfl⟩ := hcs
    have hcb := HL4.out _ (getD_at h0 zDl)
    generalize g.dl.getD 0 zDl = d0 at *
    have HM := lH_ hM
    have HCb := lH_ hcb
    clear hM hK hA_
    by_cases h1 : 0 < d0.moves.length
    ·have d3 : decide (0 < d0.moves.length) = true := decide_eq_true (by omega)
     have d3_ : decide ((0 : Int) < (d0.moves.length : Int)) = true := decide_eq_true (by omega)
     have y6 := BgO.out.cell 6
     simp only [gA_, gZ_, gS_] at y6
     go_upto_region 42 with fail
     have hgu : gO < w7.heap.size := BgO.out.lt
     have pq0 := pw_cell_below (below_alloc (Below.refl _ w7) (.cells #[] 62)) p0
     have pq1 := pw_cell_below (below_alloc (Below.refl _ w7) (.cells #[] 62)) p1
     have pq2 := pw_cell_below (below_alloc (Below.refl _ w7) (.cells #[] 62)) p2
     obtain ⟨vv, w8, hr, o1, o2, o3⟩ := append_all (d := kI2) (w0 := w7) (w := w7.alloc (.cells #[] 62)) 57 62 _ 16 (by kernel_rfl) infoMv rfl (show 0 < (kI2).sz from by decide) (by omega) (fun h => h) (R_empty (kI2) 62 (Nat.le_refl w7.heap.size)) (below_alloc (Below.refl _ w7) _) (by simp) Ai ci (Kd.C_below HM.out (below_alloc (Below.refl _ w7) _)) (by have := HCb.out; simp only [List.length_nil]; omega)
     rw [List.nil_append] at o1
     obtain ⟨Ve, ce, rfl⟩ := Kd.R_slice o1
     have HRdB := lH_ (Kd.R_mono (Kd.R_grown (Kd.R_below (Kd.R_bound HRd.out) (below_alloc (Below.refl _ w7) _)) o3 (fun k_ h_ e_ => by cases e_; exact Nat.lt_irrefl _ h_.2.2.1)) (fun _ h_ => h_.2.2.1))
     replace HRc := lH_ (Kd.R_mono (Kd.R_grown (Kd.R_below (Kd.R_bound HRc.out) (below_alloc (Below.refl _ w7) _)) o3 (fun k_ h_ e_ => by cases e_; exact Nat.lt_irrefl _ h_.2.2.1)) (fun _ h_ => h_.1))
     replace HRa := lH_ (Kd.R_mono (Kd.R_grown (Kd.R_below (Kd.R_bound HRa.out) (below_alloc (Below.refl _ w7) _)) o3 (fun k_ h_ e_ => by cases e_; exact Nat.lt_irrefl _ h_.2.2.1)) (fun _ h_ => h_.1))
     replace HRd := lH_ (Kd.R_mono (Kd.R_grown (Kd.R_below (Kd.R_bound HRd.out) (below_alloc (Below.refl _ w7) _)) o3 (fun k_ h_ e_ => by cases e_; exact Nat.lt_irrefl _ h_.2.2.1)) (fun _ h_ => h_.1))
     replace BgI := lH_ (show Blk w8 gI _ _ from (o3.block gI (BgI.out.alloc _).lt (fun e_ => by cases e_; exact Nat.lt_irrefl _ BgI.out.lt)).trans (BgI.out.alloc _))
     replace BgQ := lH_ (show Blk w8 gQ _ _ from (o3.block gQ (BgQ.out.alloc _).lt (fun e_ => by cases e_; exact Nat.lt_irrefl _ BgQ.out.lt)).trans (BgQ.out.alloc _))
     replace BgR := lH_ (show Blk w8 gR _ _ from (o3.block gR (BgR.out.alloc _).lt (fun e_ => by cases e_; exact Nat.lt_irrefl _ BgR.out.lt)).trans (BgR.out.alloc _))
     replace BgO := lH_ (show Blk w8 gO _ _ from (o3.block gO (BgO.out.alloc _).lt (fun e_ => by cases e_; exact Nat.lt_irrefl _ BgO.out.lt)).trans (BgO.out.alloc _))
     have HWX := lH_ (HX.out.size)
     have HRe := lH_ o1
     replace HX := lH_ (bthen' HX.out o2)
     have HHR := lH_ hr
     clear hr o1 o2 o3
     go_upto_region 43 with (at_builtin; go_loud (refine Kd.event_run rfl (run_append_opU (by rfl) rfl rfl HHR.out) ?_))
     clear p0 p1 p2 pq0 pq1 pq2 y6 hgu HHR
     have s2 := BgQ.out.cell 2
     simp only [gA_, gZ_, gS_] at s2
     go_wp2_with fail
     refine (rmod_any q2 (d0.moves.length : Int) w8 (by omega) (by have := HCb.out; omega)).mono ?_
     rintro e wq ⟨rfl, rfl⟩
     clear s2
     obtain ⟨i, hi⟩ : ∃ i : Nat, (i : Int) = q2 % (d0.moves.length : Int) := ⟨_, Int.toNat_of_nonneg (Int.emod_nonneg _ (by omega))⟩
     have hil : i < d0.moves.length := by have := Int.emod_lt_of_pos q2 (show (0 : Int) < (d0.moves.length : Int) by omega); omega
     rw [← hi]
     clear hi
     obtain ⟨gE, hE_, hEb_, _⟩ := R_at0 HRe.out h1
     obtain ⟨ae, hae_⟩ : ∃ a_ : Addr, a_ = ⟨gE, 0, none⟩ := ⟨_, rfl⟩
     rw [← hae_] at hE_
     subst hE_
     have HAe := lH_ hae_
     have HBe := lH_ hEb_
     clear hae_ hEb_
     obtain ⟨ad_, c0_, c1_, hA_, hK, e0, e1⟩ := el2 (d := kI2) rfl (Sc_len8 HRe.out) zI2 i hil
     obtain rfl : ae = ad_ := by injection hA_
     clear hK hA_
     have fe : w8.frozen? (ae.add (i * 2)) = false := by have h_ := HRe.out; rw [HAe.out] at h_ ⊢; rw [add_plain]; exact R_frozen h_ _
     have fe2 : w8.frozen? ⟨(ae.add (i * 2)).block, (ae.add (i * 2)).off + 1, none⟩ = false := by have h_ := HRe.out; rw [HAe.out] at h_ ⊢; rw [add_plain]; exact R_frozen h_ _
     have b0 : (0 : Int) ≤ (i : Int) := by omega
     have b1 : (i : Int) < (d0.moves.length : Int) := by omega
     have hr : IntKind.i64.wrap n = n := IntWalk.i64_in _ (by have := HN.out; omega)
     have hr2 : n.tmod 2 = n % 2 := Int.tmod_eq_emod_of_nonneg (by have := HN.out; omega)
     have hr3 : IntKind.i64.wrap (n % 2) = n % 2 := IntWalk.i64_in _ (by omega)
     obtain hv | hv : n % 2 = 0 ∨ n % 2 = 1 := by omega
     ·rw [hv] at hr2 hr3
      go_upto_region 44 with fail
      have hE := HRe.out
      rw [HAe.out] at hE
      have ea : (ae.add (i * 2) : Addr) = ⟨gE, i * kI2.sz + 0, none⟩ := by rw [HAe.out, add_plain]; rfl
      obtain ⟨m2, hm2, o1, o3⟩ := R_put1M hE zI2 i 0 hil (by decide) (.int .i64 far) (fun cs hc => ⟨⟨far, (d0.moves.getD i zI2).b⟩, by have e := kI2_open (kI2.K_of_M hc); subst e; exact kI2_mkM _ _ _ ⟨far, _⟩⟩)
      rw [ea]
      replace BgI := lH_ (show Blk (World.setCell _ _ _) gI _ _ from (o3.block gI BgI.out.lt (Kd.R_ne hE BgI.out (by decide))).trans BgI.out)
      replace BgQ := lH_ (show Blk (World.setCell _ _ _) gQ _ _ from (o3.block gQ BgQ.out.lt (Kd.R_ne hE BgQ.out (by decide))).trans BgQ.out)
      replace BgR := lH_ (show Blk (World.setCell _ _ _) gR _ _ from (o3.block gR BgR.out.lt (Kd.R_ne hE BgR.out (by decide))).trans BgR.out)
      replace BgO := lH_ (show Blk (World.setCell _ _ _) gO _ _ from (o3.block gO BgO.out.lt (Kd.R_ne hE BgO.out (by decide))).trans BgO.out)
      replace HRc := lH_ (R_grown_types HRc.out hE (nE12_ [71, 73] 62 rfl) o3)
      replace HRa := lH_ (R_grown_types HRa.out hE (nE12_ [25] 62 rfl) o3)
      replace HRd := lH_ (Kd.R_mono (Kd.R_grown HRdB.out o3 (fun k_ h_ e_ => by have h2_ := HBe.out; have e2_ : some k_ = some gE := e_; injection e2_ with e2_; omega)) (fun _ _ => trivial))
      clear HRdB
      replace HBe := lH_ (Nat.le_trans HWX.out HBe.out)
      replace HX := lH_ (bset HX.out HBe.out (i * kI2.sz + 0) (.int .i64 far))
      rw [← HAe.out] at o1
      clear HRe
      have HRe := lH_ o1
      clear o1 o3 hE ea e0 e1 fe fe2 b0 b1 hr hr2 hr3 hv
      generalize World.setCell _ _ _ = w9 at *
      have y6 := BgO.out.cell 6
      simp only [gA_, gZ_, gS_] at y6
      obtain ⟨ad_, c0_, c1_, c2_, hA_, hK, p0, p1, p2⟩ := el3 (d := mix w kDl) rfl (Sc_len8 HRd.out) zDl 0 h0
      obtain rfl : av = ad_ := by injection hA_
      rw [show av.add (0 * 3) = av from by rw [HAv.out]; rfl] at p0 p1 p2
      clear hK hA_
      have fz : w9.frozen? ⟨av.block, av.off + 2, none⟩ = false := by have h_ := HRd.out; rw [HAv.out] at h_ ⊢; exact R_frozen h_ _
      go_upto_region 58 with fail
      have hC := HRd.out
      rw [HAv.out] at hC
      have ea : (⟨av.block, av.off + 2, none⟩ : Addr) = ⟨gV, 0 * (mix w kDl).sz + 2, none⟩ := by rw [HAv.out]; rfl
      have HRq := R_apart (Kd.R_lower HRe.out HWX.out) hC (nE12_ [62] 59 rfl)
      obtain ⟨xsn, hx2, o1, o3⟩ := R_put1M hC zDl 0 2 h0 (show 2 < 3 from by decide) (.slice (some ae) d0.moves.length ce) (fun cs hc => ⟨(⟨(g.dl.getD 0 zDl).region, (g.dl.getD 0 zDl).adv, m2⟩ : Dl), by
         rcases hc with hc | hc
         ·obtain ⟨A_, c_, e_, h1_, h2_⟩ := kDl_open hc
          subst e_
          exact Or.inr (kDlM_mk (x := ⟨_, _, m2⟩) HRq)
         ·obtain ⟨v_, e_, h1_⟩ := kDlM_open hc
          subst e_
          exact Or.inr (kDlM_mk (x := ⟨_, _, m2⟩) HRq)⟩)
      rw [ea]
      replace BgI := lH_ (show Blk (World.setCell _ _ _) gI _ _ from (o3.block gI BgI.out.lt (Kd.R_ne hC BgI.out (by decide))).trans BgI.out)
      replace BgQ := lH_ (show Blk (World.setCell _ _ _) gQ _ _ from (o3.block gQ BgQ.out.lt (Kd.R_ne hC BgQ.out (by decide))).trans BgQ.out)
      replace BgR := lH_ (show Blk (World.setCell _ _ _) gR _ _ from (o3.block gR BgR.out.lt (Kd.R_ne hC BgR.out (by decide))).trans BgR.out)
      replace BgO := lH_ (show Blk (World.setCell _ _ _) gO _ _ from (o3.block gO BgO.out.lt (Kd.R_ne hC BgO.out (by decide))).trans BgO.out)
      replace HRc := lH_ (R_grown_types HRc.out hC (nE12_ [71, 73] 59 rfl) o3)
      replace HRa := lH_ (R_grown_types HRa.out hC (nE12_ [25] 59 rfl) o3)
      replace HX := lH_ (bset HX.out HBv.out (0 * (mix w kDl).sz + 2) (.slice (some ae) d0.moves.length ce))
      rw [← HAv.out] at o1
      rw [← hx2] at BgO o1
      clear HRd
      have HRd := lH_ o1
      clear o1 o3 hC ea p0 p1 p2 fz hx2 HRq
      generalize World.setCell _ _ _ = wz at *
      go_wp2_with fail
      go_meet
      exact ⟨g.ct, Vc, cc, g.an, Va, ca, xsn, some av, cd, g.hang, g.adv, HRc, HRa, HRd, BgO, BgR, HX⟩
     ·rw [hv] at hr2 hr3
      go_upto_region 44 with fail
      have hE := HRe.out
      rw [HAe.out] at hE
      have ea : (⟨(ae.add (i * 2)).block, (ae.add (i * 2)).off + 1, none⟩ : Addr) = ⟨gE, i * kI2.sz + 1, none⟩ := by rw [HAe.out, add_plain]; rfl
      obtain ⟨m2, hm2, o1, o3⟩ := R_put1M hE zI2 i 1 hil (by decide) (.int .i64 far) (fun cs hc => ⟨⟨(d0.moves.getD i zI2).a, far⟩, by have e := kI2_open (kI2.K_of_M hc); subst e; exact kI2_mkM _ _ _ ⟨_, far⟩⟩)
      rw [ea]
      replace BgI := lH_ (show Blk (World.setCell _ _ _) gI _ _ from (o3.block gI BgI.out.lt (Kd.R_ne hE BgI.out (by decide))).trans BgI.out)
      replace BgQ := lH_ (show Blk (World.setCell _ _ _) gQ _ _ from (o3.block gQ BgQ.out.lt (Kd.R_ne hE BgQ.out (by decide))).trans BgQ.out)
      replace BgR := lH_ (show Blk (World.setCell _ _ _) gR _ _ from (o3.block gR BgR.out.lt (Kd.R_ne hE BgR.out (by decide))).trans BgR.out)
      replace BgO := lH_ (show Blk (World.setCell _ _ _) gO _ _ from (o3.block gO BgO.out.lt (Kd.R_ne hE BgO.out (by decide))).trans BgO.out)
      replace HRc := lH_ (R_grown_types HRc.out hE (nE12_ [71, 73] 62 rfl) o3)
      replace HRa := lH_ (R_grown_types HRa.out hE (nE12_ [25] 62 rfl) o3)
      replace HRd := lH_ (Kd.R_mono (Kd.R_grown HRdB.out o3 (fun k_ h_ e_ => by have h2_ := HBe.out; have e2_ : some k_ = some gE := e_; injection e2_ with e2_; omega)) (fun _ _ => trivial))
      clear HRdB
      replace HBe := lH_ (Nat.le_trans HWX.out HBe.out)
      replace HX := lH_ (bset HX.out HBe.out (i * kI2.sz + 1) (.int .i64 far))
      rw [← HAe.out] at o1
      clear HRe
      have HRe := lH_ o1
      clear o1 o3 hE ea e0 e1 fe fe2 b0 b1 hr hr2 hr3 hv
      generalize World.setCell _ _ _ = w9 at *
      have y6 := BgO.out.cell 6
      simp only [gA_, gZ_, gS_] at y6
      obtain ⟨ad_, c0_, c1_, c2_, hA_, hK, p0, p1, p2⟩ := el3 (d := mix w kDl) rfl (Sc_len8 HRd.out) zDl 0 h0
      obtain rfl : av = ad_ := by injection hA_
      rw [show av.add (0 * 3) = av from by rw [HAv.out]; rfl] at p0 p1 p2
      clear hK hA_
      have fz : w9.frozen? ⟨av.block, av.off + 2, none⟩ = false := by have h_ := HRd.out; rw [HAv.out] at h_ ⊢; exact R_frozen h_ _
      go_upto_region 58 with fail
      have hC := HRd.out
      rw [HAv.out] at hC
      have ea : (⟨av.block, av.off + 2, none⟩ : Addr) = ⟨gV, 0 * (mix w kDl).sz + 2, none⟩ := by rw [HAv.out]; rfl
      have HRq := R_apart (Kd.R_lower HRe.out HWX.out) hC (nE12_ [62] 59 rfl)
      obtain ⟨xsn, hx2, o1, o3⟩ := R_put1M hC zDl 0 2 h0 (show 2 < 3 from by decide) (.slice (some ae) d0.moves.length ce) (fun cs hc => ⟨(⟨(g.dl.getD 0 zDl).region, (g.dl.getD 0 zDl).adv, m2⟩ : Dl), by
         rcases hc with hc | hc
         ·obtain ⟨A_, c_, e_, h1_, h2_⟩ := kDl_open hc
          subst e_
          exact Or.inr (kDlM_mk (x := ⟨_, _, m2⟩) HRq)
         ·obtain ⟨v_, e_, h1_⟩ := kDlM_open hc
          subst e_
          exact Or.inr (kDlM_mk (x := ⟨_, _, m2⟩) HRq)⟩)
      rw [ea]
      replace BgI := lH_ (show Blk (World.setCell _ _ _) gI _ _ from (o3.block gI BgI.out.lt (Kd.R_ne hC BgI.out (by decide))).trans BgI.out)
      replace BgQ := lH_ (show Blk (World.setCell _ _ _) gQ _ _ from (o3.block gQ BgQ.out.lt (Kd.R_ne hC BgQ.out (by decide))).trans BgQ.out)
      replace BgR := lH_ (show Blk (World.setCell _ _ _) gR _ _ from (o3.block gR BgR.out.lt (Kd.R_ne hC BgR.out (by decide))).trans BgR.out)
      replace BgO := lH_ (show Blk (World.setCell _ _ _) gO _ _ from (o3.block gO BgO.out.lt (Kd.R_ne hC BgO.out (by decide))).trans BgO.out)
      replace HRc := lH_ (R_grown_types HRc.out hC (nE12_ [71, 73] 59 rfl) o3)
      replace HRa := lH_ (R_grown_types HRa.out hC (nE12_ [25] 59 rfl) o3)
      replace HX := lH_ (bset HX.out HBv.out (0 * (mix w kDl).sz + 2) (.slice (some ae) d0.moves.length ce))
      rw [← HAv.out] at o1
      rw [← hx2] at BgO o1
      clear HRd
      have HRd := lH_ o1
      clear o1 o3 hC ea p0 p1 p2 fz hx2 HRq
      generalize World.setCell _ _ _ = wz at *
      go_wp2_with fail
      go_meet
      exact ⟨g.ct, Vc, cc, g.an, Va, ca, xsn, some av, cd, g.hang, g.adv, HRc, HRa, HRd, BgO, BgR, HX⟩
    ·have d3 : decide (0 < d0.moves.length) = false := decide_eq_false (by omega)
     have d3_ : decide ((0 : Int) < (d0.moves.length : Int)) = false := decide_eq_false (by omega)
     have y6 := BgO.out.cell 6
     simp only [gA_, gZ_, gS_] at y6
     go_wp2_with fail
     go_meet
     exact ⟨g.ct, Vc, cc, g.an, Va, ca, g.dl, some av, cd, g.hang, g.adv, HRc, HRa, HRd, BgO, BgR, HX⟩
   ·have d1 : decide (0 < g.dl.length) = false := decide_eq_false (by omega)
    have d1_ : decide ((0 : Int) < (g.dl.length : Int)) = false := decide_eq_false (by omega)
    have y6 := BgO.out.cell 6
    simp only [gA_, gZ_, gS_] at y6
    go_wp2_with fail
    go_meet
    exact ⟨g.ct, Vc, cc, g.an, Va, ca, g.dl, Vd, cd, g.hang, g.adv, HRc, HRa, HRd, BgO, BgR, HX⟩
 case rest =>
  obtain ⟨ct, Vc, cc, an, Va, ca, dl, Vd, cd, hang, adv, HRc, HRa, HRd, BgO, BgR, HX⟩ := hcut
  have r0 := BgO.out.cell 0
  have r1 := BgO.out.cell 1
  have r2 := BgO.out.cell 2
  have r3 := BgO.out.cell 3
  have r4 := BgO.out.cell 4
  have r5 := BgO.out.cell 5
  have r6 := BgO.out.cell 6
  have r7 := BgO.out.cell 7
  simp only [gA_, gZ_, gS_] at r0 r1 r2 r3 r4 r5 r6 r7
  have f0 := BgR.out.frozen 0
  have f1 := BgR.out.frozen 1
  have f2 := BgR.out.frozen 2
  have f3 := BgR.out.frozen 3
  have f4 := BgR.out.frozen 4
  have f5 := BgR.out.frozen 5
  have f6 := BgR.out.frozen 6
  have f7 := BgR.out.frozen 7
  have x0 := BgR.out.cell 0
  have x1 := BgR.out.cell 1
  have x2 := BgR.out.cell 2
  have x3 := BgR.out.cell 3
  have x4 := BgR.out.cell 4
  have x5 := BgR.out.cell 5
  have x6 := BgR.out.cell 6
  have x7 := BgR.out.cell 7
  simp only [gA_, gZ_, gS_] at x0 x1 x2 x3 x4 x5 x6 x7
  go_wp2_with fail
  refine bodyPost_ret (res_c (g := gR) rfl _ _ _ _ _ rfl ((((((((BgR.out.put 0 _ rfl).put 1 _ rfl).put 2 _ rfl).put 3 _ rfl).put 4 _ rfl).put 5 _ rfl).put 6 _ rfl).put 7 _ rfl) rfl Try.underlying29 (by kernel_rfl)) rfl ⟨⟨ct, an, hang, adv, dl, g.pr⟩, ⟨Vc, cc, Va, ca, Vd, cd, N4, n4⟩, rfl, ⟨C_of_mix (Sc_len8 (R_put8 HRc.out BgR.out (nE12_ [71, 73] 29 rfl) _ _ _ _ _ _ _ _)) (bset (bset (bset (bset (bset (bset (bset (bset HX.out HRW.out 0 _) HRW.out 1 _) HRW.out 2 _) HRW.out 3 _) HRW.out 4 _) HRW.out 5 _) HRW.out 6 _) HRW.out 7 _), Sc_len8 (R_put8 HRa.out BgR.out (nE12_ [25] 29 rfl) _ _ _ _ _ _ _ _), C_of_mix (Sc_len8 (R_put8 HRd.out BgR.out (nE12_ [59, 62] 29 rfl) _ _ _ _ _ _ _ _)) (bset (bset (bset (bset (bset (bset (bset (bset HX.out HRW.out 0 _) HRW.out 1 _) HRW.out 2 _) HRW.out 3 _) HRW.out 4 _) HRW.out 5 _) HRW.out 6 _) HRW.out 7 _), Kd.C_below HG.out.pr (bset (bset (bset (bset (bset (bset (bset (bset HX.out HRW.out 0 _) HRW.out 1 _) HRW.out 2 _) HRW.out 3 _) HRW.out 4 _) HRW.out 5 _) HRW.out 6 _) HRW.out 7 _), (Kd.R_reads' HRc.out).2.1, (Kd.R_reads' HRa.out).2.1, (Kd.R_reads' HRd.out).2.1, HG.out.l4⟩, (bset (bset (bset (bset (bset (bset (bset (bset HX.out HRW.out 0 _) HRW.out 1 _) HRW.out 2 _) HRW.out 3 _) HRW.out 4 _) HRW.out 5 _) HRW.out 6 _) HRW.out 7 _)⟩

end Go.Proofs.Ythpccdhmppbkfaa