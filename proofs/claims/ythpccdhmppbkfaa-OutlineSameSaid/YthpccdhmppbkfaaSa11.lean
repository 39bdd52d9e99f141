/- OOda: merged by wip/prune.py. -/
import Derived.Test.YthpccdhmppbkfaaSa3
import Derived.Test.YthpccdhmppbkfaaSa8
import Derived.Test.YthpccdhmppbkfaaSa9
/- the reference's Odd: some glyph; changes 0 to 6. -/
set_option linter.unusedVariables false
set_option linter.unusedSimpArgs false
set_option maxRecDepth 100000
set_option maxHeartbeats 16000000
namespace Go.Proofs.Ythpccdhmppbkfaa
open Go.RowKit Go.Shelf Go.Proofs.YthpccdhmppbkfaaW.PrintWords Go.Proofs.YthpccdhmppbkfaaW.PrintLast Go.Proofs.YthpccdhmppbkfaaW.PrintMore
theorem far_at (n : Int) (h : 0 ≤ n ∧ n ≤ 7) : ∃ far : Int, ∀ W : World, (Instr.index 78 (.agg #[.int .i64 128, .int .i64 129, .int .i64 (-128), .int .i64 (-129), .int .i64 64, .int .i64 65, .int .i64 (-65), .int .i64 0]) (.int .i64 n)).run Try.prog W = .ok (.int .i64 far) W := by
 obtain h | h | h | h | h | h | h | h : n = 0 ∨ n = 1 ∨ n = 2 ∨ n = 3 ∨ n = 4 ∨ n = 5 ∨ n = 6 ∨ n = 7 := by omega
 all_goals subst h
 ·exact ⟨128, fun W => by kernel_rfl⟩
 ·exact ⟨129, fun W => by kernel_rfl⟩
 ·exact ⟨-128, fun W => by kernel_rfl⟩
 ·exact ⟨-129, fun W => by kernel_rfl⟩
 ·exact ⟨64, fun W => by kernel_rfl⟩
 ·exact ⟨65, fun W => by kernel_rfl⟩
 ·exact ⟨-65, fun W => by kernel_rfl⟩
 ·exact ⟨0, fun W => by kernel_rfl⟩
theorem odd_a (g : Gl) (h : Hd) (q0 q1 q2 : Int) (w : World) (hg : GlR w g h) (hl : g.ct.length ≤ 1000000 ∧ g.an.length ≤ 1000000 ∧ g.dl.length ≤ 1000000) (h3 : ∀ c ∈ g.ct, 3 ≤ c.length ∧ c.length ≤ 1000000) (h4 : ∀ d ∈ g.dl, d.moves.length ≤ 1000000) (hq : 0 ≤ q0 % 14 ∧ q0 % 14 ≤ 6) : Calls Try.prog 10 #[.agg (gv g h), .agg #[.int .i64 q0, .int .i64 q1, .int .i64 q2]] w fun e w' => ∃ g' h', e = .returned (.agg (gv g' h')) ∧ GlR w' g' h' ∧ Below w.heap.size w w' := by
 have HG := lH_ hg
 have HL := lH_ hl
 have HL3 := lH_ h3
 have HL4 := lH_ h4
 have HQ := lH_ hq
 clear hg hl h3 h4 hq
 obtain ⟨N1, n1, N2, n2, N3, n3, N4, n4⟩ := h
 go_enter Try.func10, Try.ntmps10
 unfold gv
 dsimp only
 go_upto_region 1 with fail
 obtain ⟨w1, gI, hw0_, hg0_, XgI_, YgI_, _⟩ := new_box w #[.slice N1 g.ct.length n1, .slice N2 g.an.length n2, .int .i64 g.hang.a, .int .i64 g.hang.b, .int .i64 g.hang.c, .int .i64 g.adv, .slice N3 g.dl.length n3, .slice N4 g.pr.length n4] 29
 obtain ⟨w2, gQ, hw1_, hg1_, XgQ_, YgQ_, _⟩ := new_box w1 #[.int .i64 q0, .int .i64 q1, .int .i64 q2] 31
 obtain ⟨w3, gR, hw2_, hg2_, XgR_, YgR_, _⟩ := new_box w2 #[.slice none 0 0, .slice none 0 0, .int .i64 0, .int .i64 0, .int .i64 0, .int .i64 0, .slice none 0 0, .slice none 0 0] 29
 have s1_ : w.heap.size + 1 = gQ := by rw [← hg1_, ← hw0_]; simp
 have s2_ : w.heap.size + 1 + 1 = gR := by rw [← hg2_, ← hw1_, ← hw0_]; simp
 rw [hw0_, hw1_, hw2_, s2_, s1_, hg0_]
 have EgI := lH_ (show gI = w.heap.size + 0 by omega)
 have EgQ := lH_ (show gQ = w.heap.size + 1 by omega)
 have EgR := lH_ (show gR = w.heap.size + 2 by omega)
 clear hw0_ hg0_ hw1_ hg1_ hw2_ hg2_ s1_ s2_
 have HXw3 := lH_ (bthen' (bthen' (YgI_.out) YgQ_.out) YgR_.out)
 have BgI := lH_ (((XgI_.out).below YgQ_.out).below YgR_.out)
 have BgQ := lH_ ((XgQ_.out).below YgR_.out)
 have BgR := lH_ (XgR_.out)
 clear XgI_ YgI_ XgQ_ YgQ_ XgR_ YgR_
 have HX := HXw3
 clear HXw3
 have t0 := BgI.out.cell 0
 have t1 := BgI.out.cell 1
 have t2 := BgI.out.cell 2
 have t3 := BgI.out.cell 3
 have t4 := BgI.out.cell 4
 have t5 := BgI.out.cell 5
 have t6 := BgI.out.cell 6
 have t7 := BgI.out.cell 7
 simp only [gA_, gZ_, gS_] at t0 t1 t2 t3 t4 t5 t6 t7
 go_upto_region 2 with fail
 clear t0 t1 t2 t3 t4 t5 t6 t7
 obtain ⟨w4, gO, hw0_, hg0_, XgO_, YgO_, _⟩ := new_box w3 #[.slice N1 g.ct.length n1, .slice N2 g.an.length n2, .int .i64 g.hang.a, .int .i64 g.hang.b, .int .i64 g.hang.c, .int .i64 g.adv, .slice N3 g.dl.length n3, .slice N4 g.pr.length n4] 29
 rw [hw0_, hg0_]
 have EgO := lH_ (show gO = w3.heap.size + 0 by omega)
 clear hw0_ hg0_
 have HXw4 := lH_ (YgO_.out)
 have BgO := lH_ (XgO_.out)
 clear XgO_ YgO_
 have HOW := lH_ (show w.heap.size ≤ gO by have := EgO.out; have := HX.out.size; omega)
 have HNE := lH_ (show gI ≠ gO ∧ gQ ≠ gO ∧ gR ≠ gO by have := EgO.out; have := BgI.out.lt; have := BgQ.out.lt; have := BgR.out.lt; omega)
 have hb := HXw4.out
 replace HX := lH_ (bthen' HX.out hb)
 replace BgI := lH_ (BgI.out.below hb)
 replace BgQ := lH_ (BgQ.out.below hb)
 replace BgR := lH_ (BgR.out.below hb)
 clear hb HXw4
 have t0 := BgI.out.cell 0
 simp only [gA_, gZ_, gS_] at t0
 have hgu : gI < w4.heap.size := BgI.out.lt
 obtain ⟨vv, v5, hr, o1, o2, o3⟩ := append_all (d := (view w kCt)) (w0 := w) (w := w4.alloc (.cells #[] 71)) 22 71 _ 24 (by kernel_rfl) infoCt rfl (show 0 < (kCt).sz from by decide) (by omega) (fun h => h) (R_empty ((view w kCt)) 71 HX.out.size) (bthen' HX.out (below_alloc (Below.refl _ w4) _)) (Nat.le_trans HX.out.size (by simp)) N1 n1 (C_view HG.out.ct (bthen' HX.out (below_alloc (Below.refl _ w4) _))) (by have := HL.out.1; simp only [List.length_nil]; omega)
 rw [List.nil_append] at o1
 obtain ⟨Vc, cc, rfl⟩ := Kd.R_slice o1
 replace BgI := lH_ (show Blk v5 gI _ _ from (o3.block gI (BgI.out.alloc _).lt (fun e_ => by cases e_; exact Nat.lt_irrefl _ BgI.out.lt)).trans (BgI.out.alloc _))
 replace BgQ := lH_ (show Blk v5 gQ _ _ from (o3.block gQ (BgQ.out.alloc _).lt (fun e_ => by cases e_; exact Nat.lt_irrefl _ BgQ.out.lt)).trans (BgQ.out.alloc _))
 replace BgR := lH_ (show Blk v5 gR _ _ from (o3.block gR (BgR.out.alloc _).lt (fun e_ => by cases e_; exact Nat.lt_irrefl _ BgR.out.lt)).trans (BgR.out.alloc _))
 replace BgO := lH_ (show Blk v5 gO _ _ from (o3.block gO (BgO.out.alloc _).lt (fun e_ => by cases e_; exact Nat.lt_irrefl _ BgO.out.lt)).trans (BgO.out.alloc _))
 have HRc := lH_ o1
 replace HX := lH_ o2
 have HHR := lH_ hr
 clear hr o1 o2 o3
 have f0 := BgO.out.frozen 0
 have x0 := BgO.out.cell 0
 simp only [gA_, gZ_, gS_] at x0
 go_upto_region 3 with (at_builtin; go_loud (refine Kd.event_run rfl (run_append_opU (by rfl) rfl rfl HHR.out) ?_))
 replace HRc := lH_ (Kd.R_set HRc.out BgO.out (show ∀ q, q ∈ 71 :: ([] : List Nat) → q ≠ 29 by decide) 0 (.slice Vc g.ct.length cc))
 replace BgI := lH_ (BgI.out.far (show gI ≠ gO by have := HNE.out; omega) 0 (.slice Vc g.ct.length cc))
 replace BgQ := lH_ (BgQ.out.far (show gQ ≠ gO by have := HNE.out; omega) 0 (.slice Vc g.ct.length cc))
 replace BgR := lH_ (BgR.out.far (show gR ≠ gO by have := HNE.out; omega) 0 (.slice Vc g.ct.length cc))
 replace HX := lH_ (bset HX.out HOW.out 0 (.slice Vc g.ct.length cc))
 replace BgO := lH_ (show Blk _ gO #[.slice Vc g.ct.length cc, .slice N2 g.an.length n2, .int .i64 g.hang.a, .int .i64 g.hang.b, .int .i64 g.hang.c, .int .i64 g.adv, .slice N3 g.dl.length n3, .slice N4 g.pr.length n4] 29 from BgO.out.put 0 (.slice Vc g.ct.length cc) rfl)
 clear hgu HHR t0 f0 x0
 generalize World.setCell _ _ _ = w5 at *
 have t1 := BgI.out.cell 1
 simp only [gA_, gZ_, gS_] at t1
 have hgu : gI < w5.heap.size := BgI.out.lt
 obtain ⟨vv, v6, hr, o1, o2, o3⟩ := append_all (d := kI3) (w0 := w) (w := w5.alloc (.cells #[] 25)) 23 25 _ 24 (by kernel_rfl) infoAn rfl (show 0 < (kI3).sz from by decide) (by omega) (fun h => h) (R_empty (kI3) 25 HX.out.size) (bthen' HX.out (below_alloc (Below.refl _ w5) _)) (Nat.le_trans HX.out.size (by simp)) N2 n2 (Kd.C_below HG.out.an (bthen' HX.out (below_alloc (Below.refl _ w5) _))) (by have := HL.out.2.1; simp only [List.length_nil]; omega)
 rw [List.nil_append] at o1
 obtain ⟨Va, ca, rfl⟩ := Kd.R_slice o1
 replace HRc := lH_ (Kd.R_mono (Kd.R_grown (Kd.R_below (Kd.R_bound HRc.out) (below_alloc (Below.refl _ w5) _)) o3 (fun k_ h_ e_ => by cases e_; exact Nat.lt_irrefl _ h_.2.2.1)) (fun _ h_ => h_.1))
 replace BgI := lH_ (show Blk v6 gI _ _ from (o3.block gI (BgI.out.alloc _).lt (fun e_ => by cases e_; exact Nat.lt_irrefl _ BgI.out.lt)).trans (BgI.out.alloc _))
 replace BgQ := lH_ (show Blk v6 gQ _ _ from (o3.block gQ (BgQ.out.alloc _).lt (fun e_ => by cases e_; exact Nat.lt_irrefl _ BgQ.out.lt)).trans (BgQ.out.alloc _))
 replace BgR := lH_ (show Blk v6 gR _ _ from (o3.block gR (BgR.out.alloc _).lt (fun e_ => by cases e_; exact Nat.lt_irrefl _ BgR.out.lt)).trans (BgR.out.alloc _))
 replace BgO := lH_ (show Blk v6 gO _ _ from (o3.block gO (BgO.out.alloc _).lt (fun e_ => by cases e_; exact Nat.lt_irrefl _ BgO.out.lt)).trans (BgO.out.alloc _))
 have HRa := lH_ o1
 replace HX := lH_ o2
 have HHR := lH_ hr
 clear hr o1 o2 o3
 have f1 := BgO.out.frozen 1
 have x1 := BgO.out.cell 1
 simp only [gA_, gZ_, gS_] at x1
 go_upto_region 4 with (at_builtin; go_loud (refine Kd.event_run rfl (run_append_opU (by rfl) rfl rfl HHR.out) ?_))
 replace HRc := lH_ (Kd.R_set HRc.out BgO.out (show ∀ q, q ∈ 71 :: ([] : List Nat) → q ≠ 29 by decide) 1 (.slice Va g.an.length ca))
 replace HRa := lH_ (Kd.R_set HRa.out BgO.out (show ∀ q, q ∈ 25 :: ([] : List Nat) → q ≠ 29 by decide) 1 (.slice Va g.an.length ca))
 replace BgI := lH_ (BgI.out.far (show gI ≠ gO by have := HNE.out; omega) 1 (.slice Va g.an.length ca))
 replace BgQ := lH_ (BgQ.out.far (show gQ ≠ gO by have := HNE.out; omega) 1 (.slice Va g.an.length ca))
 replace BgR := lH_ (BgR.out.far (show gR ≠ gO by have := HNE.out; omega) 1 (.slice Va g.an.length ca))
 replace HX := lH_ (bset HX.out HOW.out 1 (.slice Va g.an.length ca))
 replace BgO := lH_ (show Blk _ gO #[.slice Vc g.ct.length cc, .slice Va g.an.length ca, .int .i64 g.hang.a, .int .i64 g.hang.b, .int .i64 g.hang.c, .int .i64 g.adv, .slice N3 g.dl.length n3, .slice N4 g.pr.length n4] 29 from BgO.out.put 1 (.slice Va g.an.length ca) rfl)
 clear hgu HHR t1 f1 x1
 generalize World.setCell _ _ _ = w6 at *
 have t6 := BgI.out.cell 6
 simp only [gA_, gZ_, gS_] at t6
 have hgu : gI < w6.heap.size := BgI.out.lt
 obtain ⟨vv, v7, hr, o1, o2, o3⟩ := append_all (d := (view w kDl)) (w0 := w) (w := w6.alloc (.cells #[] 59)) 26 59 _ 40 (by kernel_rfl) infoDl rfl (show 0 < (kDl).sz from by decide) (by omega) (fun h => h) (R_empty ((view w kDl)) 59 HX.out.size) (bthen' HX.out (below_alloc (Below.refl _ w6) _)) (Nat.le_trans HX.out.size (by simp)) N3 n3 (C_view HG.out.dl (bthen' HX.out (below_alloc (Below.refl _ w6) _))) (by have := HL.out.2.2; simp only [List.length_nil]; omega)
 rw [List.nil_append] at o1
 obtain ⟨Vd, cd, rfl⟩ := Kd.R_slice o1
 replace HRc := lH_ (Kd.R_mono (Kd.R_grown (Kd.R_below (Kd.R_bound HRc.out) (below_alloc (Below.refl _ w6) _)) o3 (fun k_ h_ e_ => by cases e_; exact Nat.lt_irrefl _ h_.2.2.1)) (fun _ h_ => h_.1))
 replace HRa := lH_ (Kd.R_mono (Kd.R_grown (Kd.R_below (Kd.R_bound HRa.out) (below_alloc (Below.refl _ w6) _)) o3 (fun k_ h_ e_ => by cases e_; exact Nat.lt_irrefl _ h_.2.2.1)) (fun _ h_ => h_.1))
 replace BgI := lH_ (show Blk v7 gI _ _ from (o3.block gI (BgI.out.alloc _).lt (fun e_ => by cases e_; exact Nat.lt_irrefl _ BgI.out.lt)).trans (BgI.out.alloc _))
 replace BgQ := lH_ (show Blk v7 gQ _ _ from (o3.block gQ (BgQ.out.alloc _).lt (fun e_ => by cases e_; exact Nat.lt_irrefl _ BgQ.out.lt)).trans (BgQ.out.alloc _))
 replace BgR := lH_ (show Blk v7 gR _ _ from (o3.block gR (BgR.out.alloc _).lt (fun e_ => by cases e_; exact Nat.lt_irrefl _ BgR.out.lt)).trans (BgR.out.alloc _))
 replace BgO := lH_ (show Blk v7 gO _ _ from (o3.block gO (BgO.out.alloc _).lt (fun e_ => by cases e_; exact Nat.lt_irrefl _ BgO.out.lt)).trans (BgO.out.alloc _))
 have HRd := lH_ o1
 replace HX := lH_ o2
 have HHR := lH_ hr
 clear hr o1 o2 o3
 have f6 := BgO.out.frozen 6
 have x6 := BgO.out.cell 6
 simp only [gA_, gZ_, gS_] at x6
 go_upto_region 5 with (at_builtin; go_loud (refine Kd.event_run rfl (run_append_opU (by rfl) rfl rfl HHR.out) ?_))
 replace HRc := lH_ (Kd.R_set HRc.out BgO.out (show ∀ q, q ∈ 71 :: ([] : List Nat) → q ≠ 29 by decide) 6 (.slice Vd g.dl.length cd))
 replace HRa := lH_ (Kd.R_set HRa.out BgO.out (show ∀ q, q ∈ 25 :: ([] : List Nat) → q ≠ 29 by decide) 6 (.slice Vd g.dl.length cd))
 replace HRd := lH_ (Kd.R_set HRd.out BgO.out (show ∀ q, q ∈ 59 :: ([] : List Nat) → q ≠ 29 by decide) 6 (.slice Vd g.dl.length cd))
 replace BgI := lH_ (BgI.out.far (show gI ≠ gO by have := HNE.out; omega) 6 (.slice Vd g.dl.length cd))
 replace BgQ := lH_ (BgQ.out.far (show gQ ≠ gO by have := HNE.out; omega) 6 (.slice Vd g.dl.length cd))
 replace BgR := lH_ (BgR.out.far (show gR ≠ gO by have := HNE.out; omega) 6 (.slice Vd g.dl.length cd))
 replace HX := lH_ (bset HX.out HOW.out 6 (.slice Vd g.dl.length cd))
 replace BgO := lH_ (show Blk _ gO #[.slice Vc g.ct.length cc, .slice Va g.an.length ca, .int .i64 g.hang.a, .int .i64 g.hang.b, .int .i64 g.hang.c, .int .i64 g.adv, .slice Vd g.dl.length cd, .slice N4 g.pr.length n4] 29 from BgO.out.put 6 (.slice Vd g.dl.length cd) rfl)
 clear hgu HHR t6 f6 x6
 generalize World.setCell _ _ _ = w7 at *
 have t1 := BgQ.out.cell 1
 simp only [gA_, gZ_, gS_] at t1
 go_wp2_with fail
 refine (rmod_any q1 8 w7 (by omega) (by omega)).mono ?_
 rintro e w8 ⟨rfl, rfl⟩
 clear t1
 obtain ⟨n, hn⟩ : ∃ n, q1 % 8 = n := ⟨_, rfl⟩
 have HN := lH_ (show 0 ≤ n ∧ n ≤ 7 by omega)
 rw [hn]
 clear hn
 obtain ⟨far, hfar⟩ := far_at n HN.out
 have t0 := BgQ.out.cell 0
 simp only [gA_, gZ_, gS_] at t0
 go_wp2_with fail
 refine (rmod_any q0 14 w7 (by omega) (by omega)).mono ?_
 rintro e w8 ⟨rfl, rfl⟩
 clear t0 hfar
 obtain ⟨m, hm⟩ : ∃ m, q0 % 14 = m := ⟨_, rfl⟩
 have HM := lH_ (show 0 ≤ m ∧ m ≤ 6 by have := HQ.out; omega)
 rw [hm]
 clear hm
 have HRW := lH_ (show w.heap.size ≤ gR by have := EgR.out; omega)
 have HRV := HRc
 have HRW_ := HRd
 replace HRc := lH_ (R_mix HRc.out)
 replace HRd := lH_ (R_mix HRd.out)
 go_upto_block 0 with fail
 go_cut [] (fun wx => ∃ (ct : List (List Pt)) (Vc : Option Addr) (cc : Nat) (an : List I3) (Va : Option Addr) (ca : Nat) (dl : List Dl) (Vd : Option Addr) (cd : Nat) (hang : I3) (adv : Int), Hid (Kd.R (mix w kCt) 71 wx w.heap.size (fun _ => True) (.slice Vc ct.length cc) ct) ∧ Hid (Kd.R kI3 25 wx w.heap.size (fun _ => True) (.slice Va an.length ca) an) ∧ Hid (Kd.R (mix w kDl) 59 wx w.heap.size (fun _ => True) (.slice Vd dl.length cd) dl) ∧ Hid (Blk wx gO #[.slice Vc ct.length cc, .slice Va an.length ca, .int .i64 hang.a, .int .i64 hang.b, .int .i64 hang.c, .int .i64 adv, .slice Vd dl.length cd, .slice N4 g.pr.length n4] 29) ∧ Hid (Blk wx gR #[.slice none 0 0, .slice none 0 0, .int .i64 0, .int .i64 0, .int .i64 0, .int .i64 0, .slice none 0 0, .slice none 0 0] 29) ∧ Hid (Below w.heap.size w wx))
 case first =>
  obtain h | h | h | h | h | h | h : m = 0 ∨ m = 1 ∨ m = 2 ∨ m = 3 ∨ m = 4 ∨ m = 5 ∨ m = 6 := by have := HM.out; omega
  ·subst h
   by_cases h0 : 0 < g.ct.length
   ·have d1 : decide (0 < g.ct.length) = true := decide_eq_true (by omega)
    have d1_ : decide ((0 : Int) < (g.ct.length : Int)) = true := decide_eq_true (by omega)
    obtain ⟨gV, hV_, HVb_, HVl_⟩ := R_at0 HRc.out h0
    obtain ⟨av, hav_⟩ : ∃ a_ : Addr, a_ = ⟨gV, 0, none⟩ := ⟨_, rfl⟩
    rw [← hav_] at hV_
    subst hV_
    have HAv := lH_ hav_
    have HBv := lH_ HVb_
    clear hav_ HVb_ HVl_
    obtain ⟨ad_, c0_, hA_, hK, p0⟩ := el1 (d := mix w kCt) rfl (Sc_len8 HRc.out) [] 0 h0
    obtain rfl : av = ad_ := by injection hA_
    rw [show av.add 0 = av from by rw [HAv.out]; rfl] at p0
    obtain ⟨Ai, ci, hcs, hcl, hM⟩ := kSl_open (show kCt.K w7 (g.ct.getD 0 []) [c0_] from Or.elim hK (kCt.K_below HX.out) id)
    simp only [List.cons.injEq, and_true] at hcs
    subst hcs
    have hcb := HL3.out _ (getD_at h0 [])
    generalize g.ct.getD 0 [] = c at *
    have HM := lH_ hM
    have HCb := lH_ hcb
    clear hM hK hA_
    have h1 : 0 < c.length := by omega
    have d3 : decide (0 < c.length) = true := decide_eq_true (by omega)
    have d3_ : decide ((0 : Int) < (c.length : Int)) = true := decide_eq_true (by omega)
    have y0 := BgO.out.cell 0
    simp only [gA_, gZ_, gS_] at y0
    go_upto_region 10 with fail
    have hgu : gO < w7.heap.size := BgO.out.lt
    have pq := pw_cell_below (below_alloc (Below.refl _ w7) (.cells #[] 73)) p0
    obtain ⟨vv, w8, hr, o1, o2, o3⟩ := append_all (d := kPt) (w0 := w7) (w := w7.alloc (.cells #[] 73)) 71 73 _ 24 (by kernel_rfl) infoPt rfl (show 0 < (kPt).sz from by decide) (by omega) (fun h => h) (R_empty (kPt) 73 (Nat.le_refl w7.heap.size)) (below_alloc (Below.refl _ w7) _) (by simp) Ai ci (Kd.C_below HM.out (below_alloc (Below.refl _ w7) _)) (by have := HCb.out.2; simp only [List.length_nil]; omega)
    rw [List.nil_append] at o1
    obtain ⟨Ve, ce, rfl⟩ := Kd.R_slice o1
    have HRcB := lH_ (Kd.R_mono (Kd.R_grown (Kd.R_below (Kd.R_bound HRc.out) (below_alloc (Below.refl _ w7) _)) o3 (fun k_ h_ e_ => by cases e_; exact Nat.lt_irrefl _ h_.2.2.1)) (fun _ h_ => h_.2.2.1))
    replace HRc := lH_ (Kd.R_mono (Kd.R_grown (Kd.R_below (Kd.R_bound HRc.out) (below_alloc (Below.refl _ w7) _)) o3 (fun k_ h_ e_ => by cases e_; exact Nat.lt_irrefl _ h_.2.2.1)) (fun _ h_ => h_.1))
    replace HRa := lH_ (Kd.R_mono (Kd.R_grown (Kd.R_below (Kd.R_bound HRa.out) (below_alloc (Below.refl _ w7) _)) o3 (fun k_ h_ e_ => by cases e_; exact Nat.lt_irrefl _ h_.2.2.1)) (fun _ h_ => h_.1))
    replace HRd := lH_ (Kd.R_mono (Kd.R_grown (Kd.R_below (Kd.R_bound HRd.out) (below_alloc (Below.refl _ w7) _)) o3 (fun k_ h_ e_ => by cases e_; exact Nat.lt_irrefl _ h_.2.2.1)) (fun _ h_ => h_.1))
    replace BgI := lH_ (show Blk w8 gI _ _ from (o3.block gI (BgI.out.alloc _).lt (fun e_ => by cases e_; exact Nat.lt_irrefl _ BgI.out.lt)).trans (BgI.out.alloc _))
    replace BgQ := lH_ (show Blk w8 gQ _ _ from (o3.block gQ (BgQ.out.alloc _).lt (fun e_ => by cases e_; exact Nat.lt_irrefl _ BgQ.out.lt)).trans (BgQ.out.alloc _))
    replace BgR := lH_ (show Blk w8 gR _ _ from (o3.block gR (BgR.out.alloc _).lt (fun e_ => by cases e_; exact Nat.lt_irrefl _ BgR.out.lt)).trans (BgR.out.alloc _))
    replace BgO := lH_ (show Blk w8 gO _ _ from (o3.block gO (BgO.out.alloc _).lt (fun e_ => by cases e_; exact Nat.lt_irrefl _ BgO.out.lt)).trans (BgO.out.alloc _))
    have HWX := lH_ (HX.out.size)
    have HRe := lH_ o1
    replace HX := lH_ (bthen' HX.out o2)
    have HHR := lH_ hr
    clear hr o1 o2 o3
    go_upto_region 11 with (at_builtin; go_loud (refine Kd.event_run rfl (run_append_opU (by rfl) rfl rfl HHR.out) ?_))
    clear p0 pq y0 hgu HHR
    have s2 := BgQ.out.cell 2
    simp only [gA_, gZ_, gS_] at s2
    go_wp2_with fail
    refine (rmod_any q2 (c.length : Int) w8 (by omega) (by have := HCb.out.2; omega)).mono ?_
    rintro e wq ⟨rfl, rfl⟩
    clear s2
    obtain ⟨i, hi⟩ : ∃ i : Nat, (i : Int) = q2 % (c.length : Int) := ⟨_, Int.toNat_of_nonneg (Int.emod_nonneg _ (by omega))⟩
    have hil : i < c.length := by have := Int.emod_lt_of_pos q2 (show (0 : Int) < (c.length : Int) by omega); omega
    rw [← hi]
    clear hi
    obtain ⟨gE, hE_, hEb_, _⟩ := R_at0 HRe.out h1
    obtain ⟨ae, hae_⟩ : ∃ a_ : Addr, a_ = ⟨gE, 0, none⟩ := ⟨_, rfl⟩
    rw [← hae_] at hE_
    subst hE_
    have HAe := lH_ hae_
    have HBe := lH_ hEb_
    clear hae_ hEb_
    obtain ⟨ad_, c0_, c1_, c2_, hA_, hK, e0, e1, e2⟩ := el3 (d := kPt) rfl (Sc_len8 HRe.out) zPt i hil
    obtain rfl : ae = ad_ := by injection hA_
    clear hK hA_ e1 e2
    have fe : w8.frozen? (ae.add (i * 3)) = false := by have h_ := HRe.out; rw [HAe.out] at h_ ⊢; rw [add_plain]; exact R_frozen h_ _
    have b0 : (0 : Int) ≤ (i : Int) := by omega
    have b1 : (i : Int) < (c.length : Int) := by omega
    go_upto_region 12 with fail
    have hE := HRe.out
    rw [HAe.out] at hE
    have ea : ae.add (i * 3) = ⟨gE, i * kPt.sz + 0, none⟩ := by rw [HAe.out]; exact add_plain _ _
    obtain ⟨c2, hc2, o1, o3⟩ := R_put1M hE zPt i 0 hil (by decide) (.int .i64 far) (fun cs hc => ⟨⟨far, (c.getD i zPt).b, (c.getD i zPt).c⟩, by have e := kPt_open (kPt.K_of_M hc); subst e; exact kPt_mkM _ _ _ ⟨far, _, _⟩⟩)
    rw [ea]
    replace BgI := lH_ (show Blk (World.setCell _ _ _) gI _ _ from (o3.block gI BgI.out.lt (Kd.R_ne hE BgI.out (by decide))).trans BgI.out)
    replace BgQ := lH_ (show Blk (World.setCell _ _ _) gQ _ _ from (o3.block gQ BgQ.out.lt (Kd.R_ne hE BgQ.out (by decide))).trans BgQ.out)
    replace BgR := lH_ (show Blk (World.setCell _ _ _) gR _ _ from (o3.block gR BgR.out.lt (Kd.R_ne hE BgR.out (by decide))).trans BgR.out)
    replace BgO := lH_ (show Blk (World.setCell _ _ _) gO _ _ from (o3.block gO BgO.out.lt (Kd.R_ne hE BgO.out (by decide))).trans BgO.out)
    replace HRa := lH_ (R_grown_types HRa.out hE (show ∀ q, q ∈ 25 :: ([] : List Nat) → q ≠ 73 by decide) o3)
    replace HRd := lH_ (R_grown_types HRd.out hE (show ∀ q, q ∈ 59 :: 62 :: ([] : List Nat) → q ≠ 73 by decide) o3)
    replace HRc := lH_ (Kd.R_mono (Kd.R_grown HRcB.out o3 (fun k_ h_ e_ => by have h2_ := HBe.out; have e2_ : some k_ = some gE := e_; injection e2_ with e2_; omega)) (fun _ _ => trivial))
    clear HRcB
    replace HBe := lH_ (Nat.le_trans HWX.out HBe.out)
    replace HX := lH_ (bset HX.out HBe.out (i * kPt.sz + 0) (.int .i64 far))
    rw [← HAe.out] at o1
    clear HRe
    have HRe := lH_ o1
    clear o1 o3 hE ea e0 fe b0 b1
    generalize World.setCell _ _ _ = w9 at *
    have y0 := BgO.out.cell 0
    simp only [gA_, gZ_, gS_] at y0
    obtain ⟨ad_, c0_, hA_, hK, p0⟩ := el1 (d := mix w kCt) rfl (Sc_len8 HRc.out) [] 0 h0
    obtain rfl : av = ad_ := by injection hA_
    rw [show av.add 0 = av from by rw [HAv.out]; rfl] at p0
    clear hK hA_
    have fz : w9.frozen? av = false := by have h_ := HRc.out; rw [HAv.out] at h_ ⊢; exact R_frozen h_ _
    go_upto_region 58 with fail
    have hC := HRc.out
    rw [HAv.out] at hC
    have ea : av = ⟨gV, 0 * (mix w kCt).sz + 0, none⟩ := by rw [HAv.out]; rfl
    obtain ⟨xsn, hx2, o1, o3⟩ := R_put1M hC [] 0 0 h0 (show 0 < (mix w kCt).sz from Nat.zero_lt_one) (.slice (some ae) c.length ce) (fun cs hc => ⟨c2, by
       have hl := (mix w kCt).K_len ((mix w kCt).K_of_M hc)
       match cs, hl with
       | [x_], _ => exact Or.inr ⟨_, rfl, R_apart (Kd.R_lower HRe.out HWX.out) hC (show ∀ q, q ∈ 73 :: ([] : List Nat) → q ≠ 71 by decide)⟩⟩)
    rw [ea]
    replace BgI := lH_ (show Blk (World.setCell _ _ _) gI _ _ from (o3.block gI BgI.out.lt (Kd.R_ne hC BgI.out (by decide))).trans BgI.out)
    replace BgQ := lH_ (show Blk (World.setCell _ _ _) gQ _ _ from (o3.block gQ BgQ.out.lt (Kd.R_ne hC BgQ.out (by decide))).trans BgQ.out)
    replace BgR := lH_ (show Blk (World.setCell _ _ _) gR _ _ from (o3.block gR BgR.out.lt (Kd.R_ne hC BgR.out (by decide))).trans BgR.out)
    replace BgO := lH_ (show Blk (World.setCell _ _ _) gO _ _ from (o3.block gO BgO.out.lt (Kd.R_ne hC BgO.out (by decide))).trans BgO.out)
    replace HRa := lH_ (R_grown_types HRa.out hC (show ∀ q, q ∈ 25 :: ([] : List Nat) → q ≠ 71 by decide) o3)
    replace HRd := lH_ (R_grown_types HRd.out hC (show ∀ q, q ∈ 59 :: 62 :: ([] : List Nat) → q ≠ 71 by decide) o3)
    replace HX := lH_ (bset HX.out HBv.out (0 * (mix w kCt).sz + 0) (.slice (some ae) c.length ce))
    rw [← HAv.out] at o1
    rw [← hx2] at BgO o1
    clear HRc
    have HRc := lH_ o1
    clear o1 o3 hC ea p0 fz hx2
    generalize World.setCell _ _ _ = wz at *
    go_wp2_with fail
    go_meet
    exact ⟨xsn, some av, cc, g.an, Va, ca, g.dl, Vd, cd, g.hang, g.adv, HRc, HRa, HRd, BgO, BgR, HX⟩
   ·have d1 : decide (0 < g.ct.length) = false := decide_eq_false (by omega)
    have d1_ : decide ((0 : Int) < (g.ct.length : Int)) = false := decide_eq_false (by omega)
    have y0 := BgO.out.cell 0
    simp only [gA_, gZ_, gS_] at y0
    go_wp2_with fail
    go_meet
    exact ⟨g.ct, Vc, cc, g.an, Va, ca, g.dl, Vd, cd, g.hang, g.adv, HRc, HRa, HRd, BgO, BgR, HX⟩
  ·subst h
   by_cases h0 : 0 < g.ct.length
   ·have d1 : decide (0 < g.ct.length) = true := decide_eq_true (by omega)
    have d1_ : decide ((0 : Int) < (g.ct.length : Int)) = true := decide_eq_true (by omega)
    obtain ⟨gV, hV_, HVb_, HVl_⟩ := R_at0 HRc.out h0
    obtain ⟨av, hav_⟩ : ∃ a_ : Addr, a_ = ⟨gV, 0, none⟩ := ⟨_, rfl⟩
    rw [← hav_] at hV_
    subst hV_
    have HAv := lH_ hav_
    have HBv := lH_ HVb_
    clear hav_ HVb_ HVl_
    obtain ⟨ad_, c0_, hA_, hK, p0⟩ := el1 (d := view w kCt) rfl (Sc_len8 HRV.out) [] 0 h0
    obtain rfl : av = ad_ := by injection hA_
    rw [show av.add 0 = av from by rw [HAv.out]; rfl] at p0
    obtain ⟨Ai, ci, hcs, hcl, hM⟩ := kSl_open (show kCt.K w (g.ct.getD 0 []) [c0_] from hK)
    simp only [List.cons.injEq, and_true] at hcs
    subst hcs
    have hcb := HL3.out _ (getD_at h0 [])
    generalize g.ct.getD 0 [] = c at *
    have HM := lH_ hM
    have HCb := lH_ hcb
    clear hM hK hA_
    obtain ⟨c4, hc4⟩ : ∃ q, c.take (n % 4).toNat = q := ⟨_, rfl⟩
    have hl4 : (c4.length : Int) = n % 4 := by rw [← hc4, List.length_take]; have := HCb.out.1; have := HN.out; omega
    have hr : IntKind.i64.wrap n = n := IntWalk.i64_in _ (by have := HN.out; omega)
    have hr2 : n.tmod 4 = (c4.length : Int) := by rw [hl4]; exact Int.tmod_eq_emod_of_nonneg (by have := HN.out; omega)
    have hr3 : IntKind.i64.wrap (c4.length : Int) = (c4.length : Int) := IntWalk.i64_in _ (by omega)
    have HC4L := lH_ (show c4.length ≤ c.length by have := HCb.out.1; omega)
    have HC4 := lH_ (show Kd.C kPt w Ai c4.length c4 by rw [← hc4]; exact C_cut2 HM.out _)
    have hs := cut_to (P := Try.prog) 71 73 .i64 (by kernel_rfl) (Option.isSome_iff_exists.1 (by kernel_rfl)).choose_spec Ai c.length ci (c4.length : Int) (by omega) (by have := HCb.out.1; omega) hcl
    simp only [Int.toNat_natCast] at hs
    clear hc4 hl4
    have y0 := BgO.out.cell 0
    simp only [gA_, gZ_, gS_] at y0
    go_upto_region 15 with fail
    go_still_tail 10, (by kernel_rfl)
    change wpList _ _ _ _ _ w7.drew
    replace HRc := lH_ (Kd.R_below HRc.out (below_drew (Below.refl _ _)))
    replace HRa := lH_ (Kd.R_below HRa.out (below_drew (Below.refl _ _)))
    replace HRd := lH_ (Kd.R_below HRd.out (below_drew (Below.refl _ _)))
    replace BgI := lH_ BgI.out.drew
    replace BgQ := lH_ BgQ.out.drew
    replace BgR := lH_ BgR.out.drew
    replace BgO := lH_ BgO.out.drew
    replace HX := lH_ (bdrew HX.out)
    clear p0 y0 hr hr2 hr3 hs
    generalize w7.drew = w8 at *
    have y0 := BgO.out.cell 0
    simp only [gA_, gZ_, gS_] at y0
    obtain ⟨ad_, c0_, hA_, hK, p0⟩ := el1 (d := mix w kCt) rfl (Sc_len8 HRc.out) [] 0 h0
    obtain rfl : av = ad_ := by injection hA_
    rw [show av.add 0 = av from by rw [HAv.out]; rfl] at p0
    clear hK hA_
    have fz : w8.frozen? av = false := by have h_ := HRc.out; rw [HAv.out] at h_ ⊢; exact R_frozen h_ _
    go_upto_region 58 with fail
    have hC := HRc.out
    rw [HAv.out] at hC
    have ea : av = ⟨gV, 0 * (mix w kCt).sz + 0, none⟩ := by rw [HAv.out]; rfl
    obtain ⟨xsn, hx2, o1, o3⟩ := R_put1M hC [] 0 0 h0 (show 0 < (mix w kCt).sz from Nat.zero_lt_one) (.slice Ai c4.length ci) (fun cs hc => ⟨c4, by
       have hl := (mix w kCt).K_len ((mix w kCt).K_of_M hc)
       match cs, hl with
       | [x_], _ => exact Or.inl (kSl_mk (e := 73) (Nat.le_trans HC4L.out hcl) HC4.out)⟩)
    rw [ea]
    replace BgI := lH_ (show Blk (World.setCell _ _ _) gI _ _ from (o3.block gI BgI.out.lt (Kd.R_ne hC BgI.out (by decide))).trans BgI.out)
    replace BgQ := lH_ (show Blk (World.setCell _ _ _) gQ _ _ from (o3.block gQ BgQ.out.lt (Kd.R_ne hC BgQ.out (by decide))).trans BgQ.out)
    replace BgR := lH_ (show Blk (World.setCell _ _ _) gR _ _ from (o3.block gR BgR.out.lt (Kd.R_ne hC BgR.out (by decide))).trans BgR.out)
    replace BgO := lH_ (show Blk (World.setCell _ _ _) gO _ _ from (o3.block gO BgO.out.lt (Kd.R_ne hC BgO.out (by decide))).trans BgO.out)
    replace HRa := lH_ (R_grown_types HRa.out hC (show ∀ q, q ∈ 25 :: ([] : List Nat) → q ≠ 71 by decide) o3)
    replace HRd := lH_ (R_grown_types HRd.out hC (show ∀ q, q ∈ 59 :: 62 :: ([] : List Nat) → q ≠ 71 by decide) o3)
    replace HX := lH_ (bset HX.out HBv.out (0 * (mix w kCt).sz + 0) (.slice Ai c4.length ci))
    rw [← HAv.out] at o1
    rw [← hx2] at BgO o1
    clear HRc
    have HRc := lH_ o1
    clear o1 o3 hC ea p0 fz hx2
    generalize World.setCell _ _ _ = wz at *
    go_wp2_with fail
    go_meet
    exact ⟨xsn, some av, cc, g.an, Va, ca, g.dl, Vd, cd, g.hang, g.adv, HRc, HRa, HRd, BgO, BgR, HX⟩
   ·have d1 : decide (0 < g.ct.length) = false := decide_eq_false (by omega)
    have d1_ : decide ((0 : Int) < (g.ct.length : Int)) = false := decide_eq_false (by omega)
    have y0 := BgO.out.cell 0
    simp only [gA_, gZ_, gS_] at y0
    go_wp2_with fail
    go_meet
    exact ⟨g.ct, Vc, cc, g.an, Va, ca, g.dl, Vd, cd, g.hang, g.adv, HRc, HRa, HRd, BgO, BgR, HX⟩
  ·subst h
   go_wp2_with fail
   go_loopw [9] (fun i wr => ∃ (k : Nat) (ct : List (List Pt)) (Vb : Option Addr) (cb : Nat), i = .int .i64 (k : Int) ∧ Hid ((k : Int) ≤ n) ∧ Hid (ct.length ≤ 1000000 + k) ∧ Hid (Kd.R (mix w kCt) 71 wr w.heap.size (fun _ => True) (.slice Vb ct.length cb) ct) ∧ Hid (Kd.R kI3 25 wr w.heap.size (fun _ => True) (.slice Va g.an.length ca) g.an) ∧ Hid (Kd.R (mix w kDl) 59 wr w.heap.size (fun _ => True) (.slice Vd g.dl.length cd) g.dl) ∧ Hid (Blk wr gI #[.slice N1 g.ct.length n1, .slice N2 g.an.length n2, .int .i64 g.hang.a, .int .i64 g.hang.b, .int .i64 g.hang.c, .int .i64 g.adv, .slice N3 g.dl.length n3, .slice N4 g.pr.length n4] 29) ∧ Hid (Blk wr gQ #[.int .i64 q0, .int .i64 q1, .int .i64 q2] 31) ∧ Hid (Blk wr gR #[.slice none 0 0, .slice none 0 0, .int .i64 0, .int .i64 0, .int .i64 0, .int .i64 0, .slice none 0 0, .slice none 0 0] 29) ∧ Hid (Blk wr gO #[.slice Vb ct.length cb, .slice Va g.an.length ca, .int .i64 g.hang.a, .int .i64 g.hang.b, .int .i64 g.hang.c, .int .i64 g.adv, .slice Vd g.dl.length cd, .slice N4 g.pr.length n4] 29) ∧ Hid (Below w.heap.size w wr)) (fun i _ => n.toNat - (intOf i).toNat)
   case atStart => exact ⟨0, g.ct, Vc, cc, rfl, lH_ (by have := HN.out; omega), lH_ (by have := HL.out.1; omega), HRc, HRa, HRd, BgI, BgQ, BgR, BgO, HX⟩
   case round =>
    clear HRc HRa HRd BgI BgQ BgR BgO HX
    obtain ⟨k, ct, Vb, cb, rfl, HK, HAL, HRc, HRa, HRd, BgI, BgQ, BgR, BgO, HX⟩ := hrel
    have hk9 : (k : Int) ≤ 100 := by have := HK.out; have := HN.out; omega
    by_cases hlt : (k : Int) < n
    ·have d1 : decide ((k : Int) < n) = true := decide_eq_true hlt
     have HLT := lH_ hlt
     clear hlt
     have k0 := BgO.out.frozen 0
     have y0 := BgO.out.cell 0
     simp only [gA_, gZ_, gS_] at y0
     obtain ⟨u1, hu1⟩ : ∃ u, wr.alloc (.cells #[.int .i64 (k : Int), .int .i64 0, .bool false, .int .i64 0, .int .i64 (k : Int), .bool false, .int .i64 1, .int .i64 1, .bool false] 73) = u := ⟨_, rfl⟩
     have HE1 := lH_ (show Kd.R kPt 73 u1 wr.heap.size (fun _ => True) (.slice (some ⟨wr.heap.size, 0, none⟩) 3 3) [(⟨(k : Int), 0, false⟩ : Pt), ⟨0, (k : Int), false⟩, ⟨1, 1, false⟩] from by rw [← hu1]; exact R_lit3 kPt 73 wr _ _ _ _ _ _ (kPt_mkM _ _ _ ⟨(k : Int), 0, false⟩) (kPt_mkM _ _ _ ⟨0, (k : Int), false⟩) (kPt_mkM _ _ _ ⟨1, 1, false⟩))
     have hb1 : Below wr.heap.size wr u1 := by rw [← hu1]; exact below_alloc (Below.refl _ _) _
     have hs1 : u1.heap.size = wr.heap.size + 1 := by rw [← hu1]; simp
     have HS1 := lH_ hs1
     obtain ⟨u2, hu2⟩ : ∃ u, u1.alloc (.cells #[.slice (some ⟨wr.heap.size, 0, none⟩) 3 3] 71) = u := ⟨_, rfl⟩
     have HBb := lH_ (show Blk u2 u1.heap.size #[.slice (some ⟨wr.heap.size, 0, none⟩) 3 3] 71 from by rw [← hu2]; exact Blk.new u1 _ _ rfl)
     have hb2 : Below u1.heap.size u1 u2 := by rw [← hu2]; exact below_alloc (Below.refl _ _) _
     have HB12 := lH_ (bthen' hb1 hb2)
     have hgu : gO < wr.heap.size := BgO.out.lt
     have HC1 := lH_ (Kd.R_below HRc.out HB12.out)
     have HE2 := lH_ (Kd.R_below HE1.out hb2)
     have HPc := R_apart (Kd.R_lower HE2.out HX.out.size) HC1.out (show ∀ q, q ∈ 73 :: ([] : List Nat) → q ≠ 71 by decide)
     obtain ⟨vv, w8, hr, o1, o2, o3⟩ := append_kd2 (w0 := w) (okp := fun j_ => True ∧ some j_ ≠ (Value.slice Vb ct.length cb).ownBlock) 22 71 _ 24 (by kernel_rfl) infoCt rfl (show 0 < (mix w kCt).sz from Nat.zero_lt_one) (by omega) HC1.out (bthen' HX.out HB12.out) (Nat.le_trans HX.out.size HB12.out.size) u1.heap.size [(⟨(k : Int), 0, false⟩ : Pt), ⟨0, (k : Int), false⟩, ⟨1, 1, false⟩] [.slice (some ⟨wr.heap.size, 0, none⟩) 3 3] HBb.out (Or.inr (⟨_, rfl, HPc⟩)) (fun _ h_ => h_) (by have := HAL.out; have := HLT.out; have := HN.out; omega)
     obtain ⟨A4, c4, rfl⟩ := Kd.R_slice o1
     rw [hs1] at hr
     have HHR := lH_ hr
     have HR4 := lH_ o1
     obtain ⟨xsn, hx2⟩ : ∃ q, ct ++ [[(⟨(k : Int), 0, false⟩ : Pt), ⟨0, (k : Int), false⟩, ⟨1, 1, false⟩]] = q := ⟨_, rfl⟩
     have HAX := lH_ (show xsn.length ≤ 1000000 + (k + 1) by have := HAL.out; rw [← hx2, List.length_append]; simp; omega)
     rw [hx2] at HR4 HHR
     clear hx2
     replace BgI := lH_ (show Blk w8 gI _ _ from (o3.block gI (BgI.out.below HB12.out).lt (Kd.R_ne HC1.out (BgI.out.below HB12.out) (by decide))).trans (BgI.out.below HB12.out))
     replace BgQ := lH_ (show Blk w8 gQ _ _ from (o3.block gQ (BgQ.out.below HB12.out).lt (Kd.R_ne HC1.out (BgQ.out.below HB12.out) (by decide))).trans (BgQ.out.below HB12.out))
     replace BgR := lH_ (show Blk w8 gR _ _ from (o3.block gR (BgR.out.below HB12.out).lt (Kd.R_ne HC1.out (BgR.out.below HB12.out) (by decide))).trans (BgR.out.below HB12.out))
     replace BgO := lH_ (show Blk w8 gO _ _ from (o3.block gO (BgO.out.below HB12.out).lt (Kd.R_ne HC1.out (BgO.out.below HB12.out) (by decide))).trans (BgO.out.below HB12.out))
     replace HRa := lH_ (R_grown_types (Kd.R_below HRa.out HB12.out) HC1.out (show ∀ q, q ∈ 25 :: ([] : List Nat) → q ≠ 71 by decide) o3)
     replace HRd := lH_ (R_grown_types (Kd.R_below HRd.out HB12.out) HC1.out (show ∀ q, q ∈ 59 :: 62 :: ([] : List Nat) → q ≠ 71 by decide) o3)
     replace HX := lH_ o2
     have k0x := BgO.out.frozen 0
     have yy0 := BgO.out.cell 0
     simp only [gA_, gZ_, gS_] at yy0
     clear hr o1 o2 o3 HRc HC1 HE1 HE2 HPc HBb HB12 hb1 hb2 hs1
     have HRc := HR4
     clear HR4
     rw [← hu2, ← hu1] at HHR
     rw [← hu1] at HS1
     clear hu1 hu2
     go_wp2_with (at_builtin; go_loud (refine Kd.event_run rfl (run_append_opU (by rfl) rfl rfl HHR.out) ?_))
     clear k0 k0x yy0 y0 HHR HS1 hgu
     replace HRc := lH_ (Kd.R_set HRc.out BgO.out (show ∀ q, q ∈ 71 :: 73 :: ([] : List Nat) → q ≠ 29 by decide) 0 (.slice A4 xsn.length c4))
     replace HRa := lH_ (Kd.R_set HRa.out BgO.out (show ∀ q, q ∈ 25 :: ([] : List Nat) → q ≠ 29 by decide) 0 (.slice A4 xsn.length c4))
     replace HRd := lH_ (Kd.R_set HRd.out BgO.out (show ∀ q, q ∈ 59 :: 62 :: ([] : List Nat) → q ≠ 29 by decide) 0 (.slice A4 xsn.length c4))
     replace BgI := lH_ (BgI.out.far (show gI ≠ gO by have := HNE.out; omega) 0 (.slice A4 xsn.length c4))
     replace BgQ := lH_ (BgQ.out.far (show gQ ≠ gO by have := HNE.out; omega) 0 (.slice A4 xsn.length c4))
     replace BgR := lH_ (BgR.out.far (show gR ≠ gO by have := HNE.out; omega) 0 (.slice A4 xsn.length c4))
     replace HX := lH_ (bset HX.out HOW.out 0 (.slice A4 xsn.length c4))
     replace BgO := lH_ (show Blk _ gO #[.slice A4 xsn.length c4, .slice Va g.an.length ca, .int .i64 g.hang.a, .int .i64 g.hang.b, .int .i64 g.hang.c, .int .i64 g.adv, .slice Vd g.dl.length cd, .slice N4 g.pr.length n4] 29 from BgO.out.put 0 (.slice A4 xsn.length c4) rfl)
     generalize World.setCell _ _ _ = wz at *
     exact ⟨⟨k + 1, xsn, A4, c4, by go_num, lH_ (by have := HLT.out; omega), HAX, HRc, HRa, HRd, BgI, BgQ, BgR, BgO, HX⟩, by have h1_ := HLT.out; have h2_ := HN.out; simp [intOf]; omega⟩
    ·have d1 : decide ((k : Int) < n) = false := decide_eq_false hlt
     go_wp2_with fail
     go_meet
     exact ⟨ct, Vb, cb, g.an, Va, ca, g.dl, Vd, cd, g.hang, g.adv, HRc, HRa, HRd, BgO, BgR, HX⟩
  ·subst h
   have k1 := BgO.out.frozen 1
   have y1 := BgO.out.cell 1
   simp only [gA_, gZ_, gS_] at y1
   go_upto_region 58 with (at_builtin; go_loud (refine Kd.R_append (kI3) (W := w7) (w0 := w) w.heap.size rfl (.tmp 109) (.tmp 113) 23 25 _ 24 rfl (by kernel_rfl) infoAn rfl (by decide) (by omega) (.slice Va g.an.length ca) g.an (⟨n, far, 0⟩ : I3) [.int .i64 n, .int .i64 far, .int .i64 0] (fun _ => True) (fun _ => False) rfl rfl (kI3_mkM _ _ _ ⟨n, far, 0⟩) (fun _ h => h.elim) (fun _ _ => trivial) HRa.out HX.out HX.out.size (by have := HL.out.2.1; omega) ?_); intro v4 w8 hR4 hB4 hG4 hat4; obtain ⟨A4, c4, rfl⟩ := Kd.R_slice hR4; have HR4 := lH_ hR4; replace BgI := lH_ (show Blk w8 gI _ _ from (hG4.block gI BgI.out.lt (Kd.R_ne HRa.out BgI.out (by decide))).trans BgI.out); replace BgQ := lH_ (show Blk w8 gQ _ _ from (hG4.block gQ BgQ.out.lt (Kd.R_ne HRa.out BgQ.out (by decide))).trans BgQ.out); replace BgR := lH_ (show Blk w8 gR _ _ from (hG4.block gR BgR.out.lt (Kd.R_ne HRa.out BgR.out (by decide))).trans BgR.out); replace BgO := lH_ (show Blk w8 gO _ _ from (hG4.block gO BgO.out.lt (Kd.R_ne HRa.out BgO.out (by decide))).trans BgO.out); replace HRc := lH_ (R_grown_types HRc.out HRa.out (show ∀ q, q ∈ 71 :: 73 :: ([] : List Nat) → q ≠ 25 by decide) hG4); replace HRd := lH_ (R_grown_types HRd.out HRa.out (show ∀ q, q ∈ 59 :: 62 :: ([] : List Nat) → q ≠ 25 by decide) hG4); replace HX := lH_ hB4; clear k1 y1 hR4 hB4 hG4 hat4; have k1 := BgO.out.frozen 1; have y1 := BgO.out.cell 1; simp only [gA_, gZ_, gS_] at y1)
   obtain ⟨xsn, hx2⟩ : ∃ q, g.an ++ [(⟨n, far, 0⟩ : I3)] = q := ⟨_, rfl⟩
   have hx3 : g.an.length + 1 = xsn.length := by rw [← hx2]; simp
   rw [hx2] at HR4
   rw [hx3]
   clear HRa hx2 hx3 k1 y1
   have HRa := HR4
   clear HR4
   replace HRc := lH_ (Kd.R_set HRc.out BgO.out (show ∀ q, q ∈ 71 :: 73 :: ([] : List Nat) → q ≠ 29 by decide) 1 (.slice A4 xsn.length c4))
   replace HRa := lH_ (Kd.R_set HRa.out BgO.out (show ∀ q, q ∈ 25 :: ([] : List Nat) → q ≠ 29 by decide) 1 (.slice A4 xsn.length c4))
   replace HRd := lH_ (Kd.R_set HRd.out BgO.out (show ∀ q, q ∈ 59 :: 62 :: ([] : List Nat) → q ≠ 29 by decide) 1 (.slice A4 xsn.length c4))
   replace BgI := lH_ (BgI.out.far (show gI ≠ gO by have := HNE.out; omega) 1 (.slice A4 xsn.length c4))
   replace BgQ := lH_ (BgQ.out.far (show gQ ≠ gO by have := HNE.out; omega) 1 (.slice A4 xsn.length c4))
   replace BgR := lH_ (BgR.out.far (show gR ≠ gO by have := HNE.out; omega) 1 (.slice A4 xsn.length c4))
   replace HX := lH_ (bset HX.out HOW.out 1 (.slice A4 xsn.length c4))
   replace BgO := lH_ (show Blk _ gO #[.slice Vc g.ct.length cc, .slice A4 xsn.length c4, .int .i64 g.hang.a, .int .i64 g.hang.b, .int .i64 g.hang.c, .int .i64 g.adv, .slice Vd g.dl.length cd, .slice N4 g.pr.length n4] 29 from BgO.out.put 1 (.slice A4 xsn.length c4) rfl)
   generalize World.setCell _ _ _ = wz at *
   go_wp2_with fail
   go_meet
   exact ⟨g.ct, Vc, cc, xsn, A4, c4, g.dl, Vd, cd, g.hang, g.adv, HRc, HRa, HRd, BgO, BgR, HX⟩
  ·subst h
   go_wp2_with fail
   go_loopw [10] (fun i wr => ∃ (k : Nat) (an : List I3) (Vb : Option Addr) (cb : Nat), i = .int .i64 (k : Int) ∧ Hid ((k : Int) ≤ n) ∧ Hid (an.length ≤ 1000000 + k) ∧ Hid (Kd.R (mix w kCt) 71 wr w.heap.size (fun _ => True) (.slice Vc g.ct.length cc) g.ct) ∧ Hid (Kd.R kI3 25 wr w.heap.size (fun _ => True) (.slice Vb an.length cb) an) ∧ Hid (Kd.R (mix w kDl) 59 wr w.heap.size (fun _ => True) (.slice Vd g.dl.length cd) g.dl) ∧ Hid (Blk wr gI #[.slice N1 g.ct.length n1, .slice N2 g.an.length n2, .int .i64 g.hang.a, .int .i64 g.hang.b, .int .i64 g.hang.c, .int .i64 g.adv, .slice N3 g.dl.length n3, .slice N4 g.pr.length n4] 29) ∧ Hid (Blk wr gQ #[.int .i64 q0, .int .i64 q1, .int .i64 q2] 31) ∧ Hid (Blk wr gR #[.slice none 0 0, .slice none 0 0, .int .i64 0, .int .i64 0, .int .i64 0, .int .i64 0, .slice none 0 0, .slice none 0 0] 29) ∧ Hid (Blk wr gO #[.slice Vc g.ct.length cc, .slice Vb an.length cb, .int .i64 g.hang.a, .int .i64 g.hang.b, .int .i64 g.hang.c, .int .i64 g.adv, .slice Vd g.dl.length cd, .slice N4 g.pr.length n4] 29) ∧ Hid (Below w.heap.size w wr)) (fun i _ => n.toNat - (intOf i).toNat)
   case atStart => exact ⟨0, g.an, Va, ca, rfl, lH_ (by have := HN.out; omega), lH_ (by have := HL.out.2.1; omega), HRc, HRa, HRd, BgI, BgQ, BgR, BgO, HX⟩
   case round =>
    clear HRc HRa HRd BgI BgQ BgR BgO HX
    obtain ⟨k, an, Vb, cb, rfl, HK, HAL, HRc, HRa, HRd, BgI, BgQ, BgR, BgO, HX⟩ := hrel
    have hk9 : (k : Int) ≤ 100 := by have := HK.out; have := HN.out; omega
    by_cases hlt : (k : Int) < n
    ·have d1 : decide ((k : Int) < n) = true := decide_eq_true hlt
     have HLT := lH_ hlt
     have hr : IntKind.i64.wrap (4 + (k : Int)) = 4 + (k : Int) := IntWalk.i64_in _ (by have := HN.out; omega)
     clear hlt
     have k1 := BgO.out.frozen 1
     have y1 := BgO.out.cell 1
     simp only [gA_, gZ_, gS_] at y1
     go_wp2_with (at_builtin; go_loud (refine Kd.R_append (kI3) (W := wr) (w0 := w) w.heap.size rfl (.tmp 124) (.tmp 128) 23 25 _ 24 rfl (by kernel_rfl) infoAn rfl (by decide) (by omega) (.slice Vb an.length cb) an (⟨4 + (k : Int), 0, 0⟩ : I3) [.int .i64 (4 + (k : Int)), .int .i64 0, .int .i64 0] (fun _ => True) (fun _ => False) rfl rfl (kI3_mkM _ _ _ ⟨4 + (k : Int), 0, 0⟩) (fun _ h => h.elim) (fun _ _ => trivial) HRa.out HX.out HX.out.size (by have := HAL.out; have := HN.out; have := HLT.out; omega) ?_); intro v4 w8 hR4 hB4 hG4 hat4; obtain ⟨A4, c4, rfl⟩ := Kd.R_slice hR4; have HR4 := lH_ hR4; replace BgI := lH_ (show Blk w8 gI _ _ from (hG4.block gI BgI.out.lt (Kd.R_ne HRa.out BgI.out (by decide))).trans BgI.out); replace BgQ := lH_ (show Blk w8 gQ _ _ from (hG4.block gQ BgQ.out.lt (Kd.R_ne HRa.out BgQ.out (by decide))).trans BgQ.out); replace BgR := lH_ (show Blk w8 gR _ _ from (hG4.block gR BgR.out.lt (Kd.R_ne HRa.out BgR.out (by decide))).trans BgR.out); replace BgO := lH_ (show Blk w8 gO _ _ from (hG4.block gO BgO.out.lt (Kd.R_ne HRa.out BgO.out (by decide))).trans BgO.out); replace HRc := lH_ (R_grown_types HRc.out HRa.out (show ∀ q, q ∈ 71 :: 73 :: ([] : List Nat) → q ≠ 25 by decide) hG4); replace HRd := lH_ (R_grown_types HRd.out HRa.out (show ∀ q, q ∈ 59 :: 62 :: ([] : List Nat) → q ≠ 25 by decide) hG4); replace HX := lH_ hB4; clear k1 y1 hR4 hB4 hG4 hat4; have k1 := BgO.out.frozen 1; have y1 := BgO.out.cell 1; simp only [gA_, gZ_, gS_] at y1)
     obtain ⟨xsn, hx2⟩ : ∃ q, an ++ [(⟨4 + (k : Int), 0, 0⟩ : I3)] = q := ⟨_, rfl⟩
     have hx3 : an.length + 1 = xsn.length := by rw [← hx2]; simp
     rw [hx2] at HR4
     rw [hx3]
     have HAX := lH_ (show xsn.length ≤ 1000000 + (k + 1) by have := HAL.out; omega)
     clear HRa hx2 hx3 k1 y1
     have HRa := HR4
     clear HR4
     replace HRc := lH_ (Kd.R_set HRc.out BgO.out (show ∀ q, q ∈ 71 :: 73 :: ([] : List Nat) → q ≠ 29 by decide) 1 (.slice A4 xsn.length c4))
     replace HRa := lH_ (Kd.R_set HRa.out BgO.out (show ∀ q, q ∈ 25 :: ([] : List Nat) → q ≠ 29 by decide) 1 (.slice A4 xsn.length c4))
     replace HRd := lH_ (Kd.R_set HRd.out BgO.out (show ∀ q, q ∈ 59 :: 62 :: ([] : List Nat) → q ≠ 29 by decide) 1 (.slice A4 xsn.length c4))
     replace BgI := lH_ (BgI.out.far (show gI ≠ gO by have := HNE.out; omega) 1 (.slice A4 xsn.length c4))
     replace BgQ := lH_ (BgQ.out.far (show gQ ≠ gO by have := HNE.out; omega) 1 (.slice A4 xsn.length c4))
     replace BgR := lH_ (BgR.out.far (show gR ≠ gO by have := HNE.out; omega) 1 (.slice A4 xsn.length c4))
     replace HX := lH_ (bset HX.out HOW.out 1 (.slice A4 xsn.length c4))
     replace BgO := lH_ (show Blk _ gO #[.slice Vc g.ct.length cc, .slice A4 xsn.length c4, .int .i64 g.hang.a, .int .i64 g.hang.b, .int .i64 g.hang.c, .int .i64 g.adv, .slice Vd g.dl.length cd, .slice N4 g.pr.length n4] 29 from BgO.out.put 1 (.slice A4 xsn.length c4) rfl)
     generalize World.setCell _ _ _ = wz at *
     exact ⟨⟨k + 1, xsn, A4, c4, by go_num, lH_ (by have := HLT.out; omega), HAX, HRc, HRa, HRd, BgI, BgQ, BgR, BgO, HX⟩, by have h1_ := HLT.out; have h2_ := HN.out; simp [intOf]; omega⟩
    ·have d1 : decide ((k : Int) < n) = false := decide_eq_false hlt
     go_wp2_with fail
     go_meet
     exact ⟨g.ct, Vc, cc, an, Vb, cb, g.dl, Vd, cd, g.hang, g.adv, HRc, HRa, HRd, BgO, BgR, HX⟩
  ·subst h
   have hr : IntKind.i64.wrap n = n := IntWalk.i64_in _ (by have := HN.out; omega)
   have hr2 : n.tmod 3 = n % 3 := Int.tmod_eq_emod_of_nonneg (by have := HN.out; omega)
   have hr3 : IntKind.i64.wrap (n % 3) = n % 3 := IntWalk.i64_in _ (by omega)
   have k2 := BgO.out.frozen 2
   have k3 := BgO.out.frozen 3
   have k4 := BgO.out.frozen 4
   have y2 := BgO.out.cell 2
   have y3 := BgO.out.cell 3
   have y4 := BgO.out.cell 4
   simp only [gA_, gZ_, gS_] at y2 y3 y4
   go_upto_region 58 with fail
   clear k2 k3 k4 y2 y3 y4 hr hr2 hr3
   replace HRc := lH_ (Kd.R_set HRc.out BgO.out (show ∀ q, q ∈ 71 :: 73 :: ([] : List Nat) → q ≠ 29 by decide) 2 (.int .i64 (n % 3)))
   replace HRa := lH_ (Kd.R_set HRa.out BgO.out (show ∀ q, q ∈ 25 :: ([] : List Nat) → q ≠ 29 by decide) 2 (.int .i64 (n % 3)))
   replace HRd := lH_ (Kd.R_set HRd.out BgO.out (show ∀ q, q ∈ 59 :: 62 :: ([] : List Nat) → q ≠ 29 by decide) 2 (.int .i64 (n % 3)))
   replace BgI := lH_ (BgI.out.far (show gI ≠ gO by have := HNE.out; omega) 2 (.int .i64 (n % 3)))
   replace BgQ := lH_ (BgQ.out.far (show gQ ≠ gO by have := HNE.out; omega) 2 (.int .i64 (n % 3)))
   replace BgR := lH_ (BgR.out.far (show gR ≠ gO by have := HNE.out; omega) 2 (.int .i64 (n % 3)))
   replace HX := lH_ (bset HX.out HOW.out 2 (.int .i64 (n % 3)))
   replace BgO := lH_ (show Blk _ gO #[.slice Vc g.ct.length cc, .slice Va g.an.length ca, .int .i64 (n % 3), .int .i64 g.hang.b, .int .i64 g.hang.c, .int .i64 g.adv, .slice Vd g.dl.length cd, .slice N4 g.pr.length n4] 29 from BgO.out.put 2 (.int .i64 (n % 3)) rfl)
   replace HRc := lH_ (Kd.R_set HRc.out BgO.out (show ∀ q, q ∈ 71 :: 73 :: ([] : List Nat) → q ≠ 29 by decide) 3 (.int .i64 far))
   replace HRa := lH_ (Kd.R_set HRa.out BgO.out (show ∀ q, q ∈ 25 :: ([] : List Nat) → q ≠ 29 by decide) 3 (.int .i64 far))
   replace HRd := lH_ (Kd.R_set HRd.out BgO.out (show ∀ q, q ∈ 59 :: 62 :: ([] : List Nat) → q ≠ 29 by decide) 3 (.int .i64 far))
   replace BgI := lH_ (BgI.out.far (show gI ≠ gO by have := HNE.out; omega) 3 (.int .i64 far))
   replace BgQ := lH_ (BgQ.out.far (show gQ ≠ gO by have := HNE.out; omega) 3 (.int .i64 far))
   replace BgR := lH_ (BgR.out.far (show gR ≠ gO by have := HNE.out; omega) 3 (.int .i64 far))
   replace HX := lH_ (bset HX.out HOW.out 3 (.int .i64 far))
   replace BgO := lH_ (show Blk _ gO #[.slice Vc g.ct.length cc, .slice Va g.an.length ca, .int .i64 (n % 3), .int .i64 far, .int .i64 g.hang.c, .int .i64 g.adv, .slice Vd g.dl.length cd, .slice N4 g.pr.length n4] 29 from BgO.out.put 3 (.int .i64 far) rfl)
   replace HRc := lH_ (Kd.R_set HRc.out BgO.out (show ∀ q, q ∈ 71 :: 73 :: ([] : List Nat) → q ≠ 29 by decide) 4 (.int .i64 0))
   replace HRa := lH_ (Kd.R_set HRa.out BgO.out (show ∀ q, q ∈ 25 :: ([] : List Nat) → q ≠ 29 by decide) 4 (.int .i64 0))
   replace HRd := lH_ (Kd.R_set HRd.out BgO.out (show ∀ q, q ∈ 59 :: 62 :: ([] : List Nat) → q ≠ 29 by decide) 4 (.int .i64 0))
   replace BgI := lH_ (BgI.out.far (show gI ≠ gO by have := HNE.out; omega) 4 (.int .i64 0))
   replace BgQ := lH_ (BgQ.out.far (show gQ ≠ gO by have := HNE.out; omega) 4 (.int .i64 0))
   replace BgR := lH_ (BgR.out.far (show gR ≠ gO by have := HNE.out; omega) 4 (.int .i64 0))
   replace HX := lH_ (bset HX.out HOW.out 4 (.int .i64 0))
   replace BgO := lH_ (show Blk _ gO #[.slice Vc g.ct.length cc, .slice Va g.an.length ca, .int .i64 (n % 3), .int .i64 far, .int .i64 0, .int .i64 g.adv, .slice Vd g.dl.length cd, .slice N4 g.pr.length n4] 29 from BgO.out.put 4 (.int .i64 0) rfl)
   generalize World.setCell _ _ _ = wz at *
   go_wp2_with fail
   go_meet
   exact ⟨g.ct, Vc, cc, g.an, Va, ca, g.dl, Vd, cd, ⟨n % 3, far, 0⟩, g.adv, HRc, HRa, HRd, BgO, BgR, HX⟩
  ·subst h
   have hr : IntKind.i64.wrap n = n := IntWalk.i64_in _ (by have := HN.out; omega)
   have hr2 : n.tmod 4 = n % 4 := Int.tmod_eq_emod_of_nonneg (by have := HN.out; omega)
   have hr3 : IntKind.i64.wrap (n % 4) = n % 4 := IntWalk.i64_in _ (by omega)
   have hv : n % 4 = 0 ∨ n % 4 = 1 ∨ n % 4 = 2 ∨ n % 4 = 3 := by omega
   have hgu : gO < w7.heap.size := BgO.out.lt
   have k2 := BgO.out.frozen 2
   have y2 := BgO.out.cell 2
   simp only [gA_, gZ_, gS_] at y2
   rcases hv with hv | hv | hv | hv
   ·rw [hv] at hr2 hr3
    go_upto_region 58 with fail
    replace HRc := lH_ (Kd.R_below (Kd.R_set HRc.out BgO.out (show ∀ q, q ∈ 71 :: 73 :: ([] : List Nat) → q ≠ 29 by decide) 2 (.int .i64 (-1))) (below_alloc (Below.refl _ _) (.cells #[.int .i64 (-1), .int .i64 0, .int .i64 9, .int .i64 10] 3)))
    replace HRa := lH_ (Kd.R_below (Kd.R_set HRa.out BgO.out (show ∀ q, q ∈ 25 :: ([] : List Nat) → q ≠ 29 by decide) 2 (.int .i64 (-1))) (below_alloc (Below.refl _ _) (.cells #[.int .i64 (-1), .int .i64 0, .int .i64 9, .int .i64 10] 3)))
    replace HRd := lH_ (Kd.R_below (Kd.R_set HRd.out BgO.out (show ∀ q, q ∈ 59 :: 62 :: ([] : List Nat) → q ≠ 29 by decide) 2 (.int .i64 (-1))) (below_alloc (Below.refl _ _) (.cells #[.int .i64 (-1), .int .i64 0, .int .i64 9, .int .i64 10] 3)))
    replace BgI := lH_ ((BgI.out.far (show gI ≠ gO by have := HNE.out; omega) 2 (.int .i64 (-1))).alloc (.cells #[.int .i64 (-1), .int .i64 0, .int .i64 9, .int .i64 10] 3))
    replace BgQ := lH_ ((BgQ.out.far (show gQ ≠ gO by have := HNE.out; omega) 2 (.int .i64 (-1))).alloc (.cells #[.int .i64 (-1), .int .i64 0, .int .i64 9, .int .i64 10] 3))
    replace BgR := lH_ ((BgR.out.far (show gR ≠ gO by have := HNE.out; omega) 2 (.int .i64 (-1))).alloc (.cells #[.int .i64 (-1), .int .i64 0, .int .i64 9, .int .i64 10] 3))
    replace HX := lH_ (bthen' (bset HX.out HOW.out 2 (.int .i64 (-1))) (below_alloc (Below.refl _ _) (.cells #[.int .i64 (-1), .int .i64 0, .int .i64 9, .int .i64 10] 3)))
    replace BgO := lH_ ((show Blk _ gO #[.slice Vc g.ct.length cc, .slice Va g.an.length ca, (.int .i64 (-1)), .int .i64 g.hang.b, .int .i64 g.hang.c, .int .i64 g.adv, .slice Vd g.dl.length cd, .slice N4 g.pr.length n4] 29 from BgO.out.put 2 (.int .i64 (-1)) rfl).alloc (.cells #[.int .i64 (-1), .int .i64 0, .int .i64 9, .int .i64 10] 3))
    clear k2 y2 hgu hr hr2 hr3
    generalize World.alloc _ _ = wz at *
    go_wp2_with fail
    go_meet
    exact ⟨g.ct, Vc, cc, g.an, Va, ca, g.dl, Vd, cd, ⟨-1, g.hang.b, g.hang.c⟩, g.adv, HRc, HRa, HRd, BgO, BgR, HX⟩
   ·rw [hv] at hr2 hr3
    go_upto_region 58 with fail
    replace HRc := lH_ (Kd.R_below (Kd.R_set HRc.out BgO.out (show ∀ q, q ∈ 71 :: 73 :: ([] : List Nat) → q ≠ 29 by decide) 2 (.int .i64 (0))) (below_alloc (Below.refl _ _) (.cells #[.int .i64 (-1), .int .i64 0, .int .i64 9, .int .i64 10] 3)))
    replace HRa := lH_ (Kd.R_below (Kd.R_set HRa.out BgO.out (show ∀ q, q ∈ 25 :: ([] : List Nat) → q ≠ 29 by decide) 2 (.int .i64 (0))) (below_alloc (Below.refl _ _) (.cells #[.int .i64 (-1), .int .i64 0, .int .i64 9, .int .i64 10] 3)))
    replace HRd := lH_ (Kd.R_below (Kd.R_set HRd.out BgO.out (show ∀ q, q ∈ 59 :: 62 :: ([] : List Nat) → q ≠ 29 by decide) 2 (.int .i64 (0))) (below_alloc (Below.refl _ _) (.cells #[.int .i64 (-1), .int .i64 0, .int .i64 9, .int .i64 10] 3)))
    replace BgI := lH_ ((BgI.out.far (show gI ≠ gO by have := HNE.out; omega) 2 (.int .i64 (0))).alloc (.cells #[.int .i64 (-1), .int .i64 0, .int .i64 9, .int .i64 10] 3))
    replace BgQ := lH_ ((BgQ.out.far (show gQ ≠ gO by have := HNE.out; omega) 2 (.int .i64 (0))).alloc (.cells #[.int .i64 (-1), .int .i64 0, .int .i64 9, .int .i64 10] 3))
    replace BgR := lH_ ((BgR.out.far (show gR ≠ gO by have := HNE.out; omega) 2 (.int .i64 (0))).alloc (.cells #[.int .i64 (-1), .int .i64 0, .int .i64 9, .int .i64 10] 3))
    replace HX := lH_ (bthen' (bset HX.out HOW.out 2 (.int .i64 (0))) (below_alloc (Below.refl _ _) (.cells #[.int .i64 (-1), .int .i64 0, .int .i64 9, .int .i64 10] 3)))
    replace BgO := lH_ ((show Blk _ gO #[.slice Vc g.ct.length cc, .slice Va g.an.length ca, (.int .i64 (0)), .int .i64 g.hang.b, .int .i64 g.hang.c, .int .i64 g.adv, .slice Vd g.dl.length cd, .slice N4 g.pr.length n4] 29 from BgO.out.put 2 (.int .i64 (0)) rfl).alloc (.cells #[.int .i64 (-1), .int .i64 0, .int .i64 9, .int .i64 10] 3))
    clear k2 y2 hgu hr hr2 hr3
    generalize World.alloc _ _ = wz at *
    go_wp2_with fail
    go_meet
    exact ⟨g.ct, Vc, cc, g.an, Va, ca, g.dl, Vd, cd, ⟨0, g.hang.b, g.hang.c⟩, g.adv, HRc, HRa, HRd, BgO, BgR, HX⟩
   ·rw [hv] at hr2 hr3
    go_upto_region 58 with fail
    replace HRc := lH_ (Kd.R_below (Kd.R_set HRc.out BgO.out (show ∀ q, q ∈ 71 :: 73 :: ([] : List Nat) → q ≠ 29 by decide) 2 (.int .i64 (9))) (below_alloc (Below.refl _ _) (.cells #[.int .i64 (-1), .int .i64 0, .int .i64 9, .int .i64 10] 3)))
    replace HRa := lH_ (Kd.R_below (Kd.R_set HRa.out BgO.out (show ∀ q, q ∈ 25 :: ([] : List Nat) → q ≠ 29 by decide) 2 (.int .i64 (9))) (below_alloc (Below.refl _ _) (.cells #[.int .i64 (-1), .int .i64 0, .int .i64 9, .int .i64 10] 3)))
    replace HRd := lH_ (Kd.R_below (Kd.R_set HRd.out BgO.out (show ∀ q, q ∈ 59 :: 62 :: ([] : List Nat) → q ≠ 29 by decide) 2 (.int .i64 (9))) (below_alloc (Below.refl _ _) (.cells #[.int .i64 (-1), .int .i64 0, .int .i64 9, .int .i64 10] 3)))
    replace BgI := lH_ ((BgI.out.far (show gI ≠ gO by have := HNE.out; omega) 2 (.int .i64 (9))).alloc (.cells #[.int .i64 (-1), .int .i64 0, .int .i64 9, .int .i64 10] 3))
    replace BgQ := lH_ ((BgQ.out.far (show gQ ≠ gO by have := HNE.out; omega) 2 (.int .i64 (9))).alloc (.cells #[.int .i64 (-1), .int .i64 0, .int .i64 9, .int .i64 10] 3))
    replace BgR := lH_ ((BgR.out.far (show gR ≠ gO by have := HNE.out; omega) 2 (.int .i64 (9))).alloc (.cells #[.int .i64 (-1), .int .i64 0, .int .i64 9, .int .i64 10] 3))
    replace HX := lH_ (bthen' (bset HX.out HOW.out 2 (.int .i64 (9))) (below_alloc (Below.refl _ _) (.cells #[.int .i64 (-1), .int .i64 0, .int .i64 9, .int .i64 10] 3)))
    replace BgO := lH_ ((show Blk _ gO #[.slice Vc g.ct.length cc, .slice Va g.an.length ca, (.int .i64 (9)), .int .i64 g.hang.b, .int .i64 g.hang.c, .int .i64 g.adv, .slice Vd g.dl.length cd, .slice N4 g.pr.length n4] 29 from BgO.out.put 2 (.int .i64 (9)) rfl).alloc (.cells #[.int .i64 (-1), .int .i64 0, .int .i64 9, .int .i64 10] 3))
    clear k2 y2 hgu hr hr2 hr3
    generalize World.alloc _ _ = wz at *
    go_wp2_with fail
    go_meet
    exact ⟨g.ct, Vc, cc, g.an, Va, ca, g.dl, Vd, cd, ⟨9, g.hang.b, g.hang.c⟩, g.adv, HRc, HRa, HRd, BgO, BgR, HX⟩
   ·rw [hv] at hr2 hr3
    go_upto_region 58 with fail
    replace HRc := lH_ (Kd.R_below (Kd.R_set HRc.out BgO.out (show ∀ q, q ∈ 71 :: 73 :: ([] : List Nat) → q ≠ 29 by decide) 2 (.int .i64 (10))) (below_alloc (Below.refl _ _) (.cells #[.int .i64 (-1), .int .i64 0, .int .i64 9, .int .i64 10] 3)))
    replace HRa := lH_ (Kd.R_below (Kd.R_set HRa.out BgO.out (show ∀ q, q ∈ 25 :: ([] : List Nat) → q ≠ 29 by decide) 2 (.int .i64 (10))) (below_alloc (Below.refl _ _) (.cells #[.int .i64 (-1), .int .i64 0, .int .i64 9, .int .i64 10] 3)))
    replace HRd := lH_ (Kd.R_below (Kd.R_set HRd.out BgO.out (show ∀ q, q ∈ 59 :: 62 :: ([] : List Nat) → q ≠ 29 by decide) 2 (.int .i64 (10))) (below_alloc (Below.refl _ _) (.cells #[.int .i64 (-1), .int .i64 0, .int .i64 9, .int .i64 10] 3)))
    replace BgI := lH_ ((BgI.out.far (show gI ≠ gO by have := HNE.out; omega) 2 (.int .i64 (10))).alloc (.cells #[.int .i64 (-1), .int .i64 0, .int .i64 9, .int .i64 10] 3))
    replace BgQ := lH_ ((BgQ.out.far (show gQ ≠ gO by have := HNE.out; omega) 2 (.int .i64 (10))).alloc (.cells #[.int .i64 (-1), .int .i64 0, .int .i64 9, .int .i64 10] 3))
    replace BgR := lH_ ((BgR.out.far (show gR ≠ gO by have := HNE.out; omega) 2 (.int .i64 (10))).alloc (.cells #[.int .i64 (-1), .int .i64 0, .int .i64 9, .int .i64 10] 3))
    replace HX := lH_ (bthen' (bset HX.out HOW.out 2 (.int .i64 (10))) (below_alloc (Below.refl _ _) (.cells #[.int .i64 (-1), .int .i64 0, .int .i64 9, .int .i64 10] 3)))
    replace BgO := lH_ ((show Blk _ gO #[.slice Vc g.ct.length cc, .slice Va g.an.length ca, (.int .i64 (10)), .int .i64 g.hang.b, .int .i64 g.hang.c, .int .i64 g.adv, .slice Vd g.dl.length cd, .slice N4 g.pr.length n4] 29 from BgO.out.put 2 (.int .i64 (10)) rfl).alloc (.cells #[.int .i64 (-1), .int .i64 0, .int .i64 9, .int .i64 10] 3))
    clear k2 y2 hgu hr hr2 hr3
    generalize World.alloc _ _ = wz at *
    go_wp2_with fail
    go_meet
    exact ⟨g.ct, Vc, cc, g.an, Va, ca, g.dl, Vd, cd, ⟨10, g.hang.b, g.hang.c⟩, g.adv, HRc, HRa, HRd, BgO, BgR, HX⟩
 case rest =>
  obtain ⟨ct, Vc, cc, an, Va, ca, dl, Vd, cd, hang, adv, HRc, HRa, HRd, BgO, BgR, HX⟩ := hcut
  have r0 := BgO.out.cell 0
  have r1 := BgO.out.cell 1
  have r2 := BgO.out.cell 2
  have r3 := BgO.out.cell 3
  have r4 := BgO.out.cell 4
  have r5 := BgO.out.cell 5
  have r6 := BgO.out.cell 6
  have r7 := BgO.out.cell 7
  simp only [gA_, gZ_, gS_] at r0 r1 r2 r3 r4 r5 r6 r7
  have f0 := BgR.out.frozen 0
  have f1 := BgR.out.frozen 1
  have f2 := BgR.out.frozen 2
  have f3 := BgR.out.frozen 3
  have f4 := BgR.out.frozen 4
  have f5 := BgR.out.frozen 5
  have f6 := BgR.out.frozen 6
  have f7 := BgR.out.frozen 7
  have x0 := BgR.out.cell 0
  have x1 := BgR.out.cell 1
  have x2 := BgR.out.cell 2
  have x3 := BgR.out.cell 3
  have x4 := BgR.out.cell 4
  have x5 := BgR.out.cell 5
  have x6 := BgR.out.cell 6
  have x7 := BgR.out.cell 7
  simp only [gA_, gZ_, gS_] at x0 x1 x2 x3 x4 x5 x6 x7
  go_wp2_with fail
  refine bodyPost_ret (res_c (g := gR) rfl _ _ _ _ _ rfl ((((((((BgR.out.put 0 _ rfl).put 1 _ rfl).put 2 _ rfl).put 3 _ rfl).put 4 _ rfl).put 5 _ rfl).put 6 _ rfl).put 7 _ rfl) rfl Try.underlying29 (by kernel_rfl)) rfl ⟨⟨ct, an, hang, adv, dl, g.pr⟩, ⟨Vc, cc, Va, ca, Vd, cd, N4, n4⟩, rfl, ⟨C_of_mix (Sc_len8 (R_put8 HRc.out BgR.out (show ∀ q, q ∈ 71 :: 73 :: ([] : List Nat) → q ≠ 29 by decide) _ _ _ _ _ _ _ _)) (bset (bset (bset (bset (bset (bset (bset (bset HX.out HRW.out 0 _) HRW.out 1 _) HRW.out 2 _) HRW.out 3 _) HRW.out 4 _) HRW.out 5 _) HRW.out 6 _) HRW.out 7 _), Sc_len8 (R_put8 HRa.out BgR.out (show ∀ q, q ∈ 25 :: ([] : List Nat) → q ≠ 29 by decide) _ _ _ _ _ _ _ _), C_of_mix (Sc_len8 (R_put8 HRd.out BgR.out (show ∀ q, q ∈ 59 :: 62 :: ([] : List Nat) → q ≠ 29 by decide) _ _ _ _ _ _ _ _)) (bset (bset (bset (bset (bset (bset (bset (bset HX.out HRW.out 0 _) HRW.out 1 _) HRW.out 2 _) HRW.out 3 _) HRW.out 4 _) HRW.out 5 _) HRW.out 6 _) HRW.out 7 _), Kd.C_below HG.out.pr (bset (bset (bset (bset (bset (bset (bset (bset HX.out HRW.out 0 _) HRW.out 1 _) HRW.out 2 _) HRW.out 3 _) HRW.out 4 _) HRW.out 5 _) HRW.out 6 _) HRW.out 7 _), (Kd.R_reads' HRc.out).2.1, (Kd.R_reads' HRa.out).2.1, (Kd.R_reads' HRd.out).2.1, HG.out.l4⟩, (bset (bset (bset (bset (bset (bset (bset (bset HX.out HRW.out 0 _) HRW.out 1 _) HRW.out 2 _) HRW.out 3 _) HRW.out 4 _) HRW.out 5 _) HRW.out 6 _) HRW.out 7 _)⟩

end Go.Proofs.Ythpccdhmppbkfaa