/- OOs, OSameW: merged by wip/prune.py. -/
import Derived.Test.YthpccdhmppbkfaaSa6
import Derived.Test.YthpccdhmppbkfaaSa9
import Derived.Test.YthpccdhmppbkfaaSa10
import Derived.Test.YthpccdhmppbkfaaSa13
/- OutlineSame. -/
set_option linter.unusedVariables false
set_option linter.unusedSimpArgs false
set_option maxRecDepth 100000
set_option maxHeartbeats 16000000
namespace Go.Proofs.Ythpccdhmppbkfaa
open Go.RowKit Go.Shelf Go.Proofs.YthpccdhmppbkfaaW.PrintWords Go.Proofs.YthpccdhmppbkfaaW.PrintLast Go.Proofs.YthpccdhmppbkfaaW.PrintMore
theorem len_le_pts2 : ∀ (ct : List (List Pt)) (q : List Pt), q ∈ ct → q.length ≤ ptsN ct
 | a :: ct, q, h => by
  unfold ptsN
  rw [List.map_cons, List.sum_cons]
  rcases List.mem_cons.1 h with rfl | h
  ·omega
  ·have := len_le_pts2 ct q h
   unfold ptsN at this
   omega
theorem md_len {R : Nat} {g : Gl} (m : MdOk R g) : (g.ct.length ≤ 1000000 ∧ g.an.length ≤ 1000000 ∧ g.dl.length ≤ 1000000) ∧ (∀ c ∈ g.ct, 3 ≤ c.length ∧ c.length ≤ 1000000) ∧ (∀ d ∈ g.dl, d.moves.length ≤ 1000000) := by
 have G := chk_good g _ m.chk
 have hp := G.np
 unfold Gl.pts at hp
 exact ⟨⟨by have := G.nc; omega, by have := G.na; omega, by have := m.nd; omega⟩, fun c hc => ⟨(G.ct c hc).1, by have := len_le_pts2 _ c hc; omega⟩, fun d hd => by have := (G.dl d hd).2.2; have := G.np; omega⟩
theorem sameB_refl (g : Gl) : sameB g g = true := by simp [sameB]
theorem sameB_pr {g x : Gl} (h : g.pr ≠ x.pr) : sameB g x = false := by simp [sameB, h]
def oOs2.T2 : Bool × List (List Nat × List Nat) := (true, [([], []), ([0], [0]), ([], []), ([2, 1], [2]), ([1, 3, 0, 1], [1]), ([3, 4, 0, 1, 2, 3, 4], [3])])
def oOs2.B2 : List Nat := [0, 1, 0, 7, 15, 31]
theorem oOs2.tab2 : rtab .any (opsOf Try.f3 2) = oOs2.T2 := by kernel_rfl
theorem oOs2.bits2 : waitsOk oOs2.T2.2 oOs2.B2 = true := by kernel_rfl
def oOs7.T7 : Bool × List (List Nat × List Nat) := (true, [([], []), ([0], [0]), ([1], [1]), ([1], [1]), ([2, 3, 1, 1], [1, 2, 3]), ([1], [1]), ([1], [1]), ([5, 6, 4, 1], [1, 5, 6]), ([4, 7, 1], [1, 4, 7]), ([1, 8], [1, 8]), ([9, 7], [9]), ([10], [10]), ([10], [10]), ([11, 12, 10, 10], [10, 11, 12]), ([10, 13], [10, 13]), ([14, 13], [14]), ([15], [15]), ([15], [15]), ([16, 17, 15, 15], [15, 16, 17]), ([15], [15]), ([15], [15]), ([19, 20, 18, 15], [15, 19, 20]), ([18, 21, 15], [15, 18, 21]), ([15, 22], [15, 22]), ([23, 21], [23]), ([24], [24]), ([24], [24]), ([25, 26, 24, 24], [24, 25, 26]), ([27, 24], [24, 27]), ([24, 28], [24, 28]), ([29, 27], [29]), ([30], [30]), ([30], [30]), ([31, 32, 30, 30], [30, 31, 32]), ([30, 33], [30, 33]), ([34, 33, 0, 1, 2, 3, 4, 5, 6, 7, 8, 9, 10, 11, 12, 13, 14, 15, 16, 17, 18, 19, 20, 21, 22, 23, 24, 25, 26, 27, 28, 29, 30, 31, 32, 33, 34], [34])])
def oOs7.B7 : List Nat := [0, 1, 3, 3, 15, 3, 3, 127, 255, 511, 1023, 2047, 2047, 8191, 16383, 32767, 65535, 65535, 262143, 65535, 65535, 2097151, 4194303, 8388607, 16777215, 33554431, 33554431, 134217727, 268435455, 536870911, 1073741823, 2147483647, 2147483647, 8589934591, 17179869183, 34359738367]
theorem oOs7.tab7 : rtab .any (opsOf Try.f3 7) = oOs7.T7 := by kernel_rfl
theorem oOs7.bits7 : waitsOk oOs7.T7.2 oOs7.B7 = true := by kernel_rfl
theorem same_law (gl1 gl2 : Gl) (hd1 hd2 : Hd) (l1 l2 l3 : List Int) (A1 A2 A3 : Option Addr) (c1 c2 c3 : Nat) (o0 o1 o2 x y : Int) (w : World) (hg1 : GlR w gl1 hd1) (hg2 : GlR w gl2 hd2) (hx : 0 ≤ x ∧ x ≤ 255) (hy : 0 ≤ y ∧ y ≤ 255) (h1 : Kd.C kI w A1 l1.length l1) (h2 : Kd.C kI w A2 l2.length l2) (h3 : Kd.C kI w A3 l3.length l3) (h4 : l2.length ≤ c2) :
  Calls Try.prog 3 #[.agg (gv gl1 hd1), .agg (gv gl2 hd2), .agg #[.slice A1 l1.length c1, .slice A2 l2.length c2, .slice A3 l3.length c3, .int .i64 o0, .int .i64 o1, .int .i64 o2, .int .u8 x, .int .u8 y]] w fun e w' => e = .returned (.bool true) ∧ Below w.heap.size w w' := by
 have HG1 := lH_ hg1
 have HG2 := lH_ hg2
 have HC1 := lH_ h1
 have HC2 := lH_ h2
 have HC3 := lH_ h3
 have HCP2 := lH_ h4
 have HBX := lH_ hx
 have HBY := lH_ hy
 clear h1 h2 h3 h4 hx hy hg1 hg2
 go_enter Try.func3, Try.ntmps3
 unfold gv
 go_upto_region 1 with fail
 obtain ⟨w1, gA, hw0_, hg0_, XgA_, YgA_, _⟩ := new_box w #[.slice hd1.a1 gl1.ct.length hd1.c1, .slice hd1.a2 gl1.an.length hd1.c2, .int .i64 gl1.hang.a, .int .i64 gl1.hang.b, .int .i64 gl1.hang.c, .int .i64 gl1.adv, .slice hd1.a3 gl1.dl.length hd1.c3, .slice hd1.a4 gl1.pr.length hd1.c4] 29
 obtain ⟨w2, gB, hw1_, hg1_, XgB_, YgB_, _⟩ := new_box w1 #[.slice hd2.a1 gl2.ct.length hd2.c1, .slice hd2.a2 gl2.an.length hd2.c2, .int .i64 gl2.hang.a, .int .i64 gl2.hang.b, .int .i64 gl2.hang.c, .int .i64 gl2.adv, .slice hd2.a3 gl2.dl.length hd2.c3, .slice hd2.a4 gl2.pr.length hd2.c4] 29
 obtain ⟨w3, gC, hw2_, hg2_, XgC_, YgC_, _⟩ := new_box w2 #[.slice A1 l1.length c1, .slice A2 l2.length c2, .slice A3 l3.length c3, .int .i64 o0, .int .i64 o1, .int .i64 o2, .int .u8 x, .int .u8 y] 33
 have s1_ : w.heap.size + 1 = gB := by rw [← hg1_, ← hw0_]; simp
 have s2_ : w.heap.size + 1 + 1 = gC := by rw [← hg2_, ← hw1_, ← hw0_]; simp
 rw [hw0_, hw1_, hw2_, s2_, s1_, hg0_]
 have EgA := lH_ (show gA = w.heap.size + 0 by omega)
 have EgB := lH_ (show gB = w.heap.size + 1 by omega)
 have EgC := lH_ (show gC = w.heap.size + 2 by omega)
 clear hw0_ hg0_ hw1_ hg1_ hw2_ hg2_ s1_ s2_
 have HXw3 := lH_ (bthen' (bthen' (YgA_.out) YgB_.out) YgC_.out)
 have BgA := lH_ (((XgA_.out).below YgB_.out).below YgC_.out)
 have BgB := lH_ ((XgB_.out).below YgC_.out)
 have BgC := lH_ (XgC_.out)
 clear XgA_ YgA_ XgB_ YgB_ XgC_ YgC_
 have HX := HXw3
 clear HXw3
 have HNE := lH_ (show gA ≠ gB ∧ gA ≠ gC ∧ gB ≠ gC ∧ w.heap.size ≤ gA ∧ w.heap.size ≤ gB by have := EgA.out; have := EgB.out; have := EgC.out; omega)
 go_wp2_with fail
 refine (sanity_any w3).mono ?_
 rintro e w4 ⟨rfl, hb⟩
 replace HX := lH_ (bthen' HX.out hb)
 replace BgA := lH_ (BgA.out.below hb)
 replace BgB := lH_ (BgB.out.below hb)
 replace BgC := lH_ (BgC.out.below hb)
 clear hb
 go_upto_region 2 with fail
 refine start_ (n := 6) (S := fun w' => True) (ds := []) #[false, false, false, false, false, false] (by kernel_rfl) rfl rfl trivial (fun hHeld => ?_)
 refine with_tabW oOs2.tab2 oOs2.bits2 (fun HT_ HW_ => ?_)
 have HB : Aside0 (Below w.heap.size w w4.drew) := ⟨bdrew HX.out⟩
 have BA : Aside0 (Blk w4.drew gA #[.slice hd1.a1 gl1.ct.length hd1.c1, .slice hd1.a2 gl1.an.length hd1.c2, .int .i64 gl1.hang.a, .int .i64 gl1.hang.b, .int .i64 gl1.hang.c, .int .i64 gl1.adv, .slice hd1.a3 gl1.dl.length hd1.c3, .slice hd1.a4 gl1.pr.length hd1.c4] 29) := ⟨BgA.out.drew⟩
 have BB : Aside0 (Blk w4.drew gB #[.slice hd2.a1 gl2.ct.length hd2.c1, .slice hd2.a2 gl2.an.length hd2.c2, .int .i64 gl2.hang.a, .int .i64 gl2.hang.b, .int .i64 gl2.hang.c, .int .i64 gl2.adv, .slice hd2.a3 gl2.dl.length hd2.c3, .slice hd2.a4 gl2.pr.length hd2.c4] 29) := ⟨BgB.out.drew⟩
 have BC : Aside0 (Blk w4.drew gC #[.slice A1 l1.length c1, .slice A2 l2.length c2, .slice A3 l3.length c3, .int .i64 o0, .int .i64 o1, .int .i64 o2, .int .u8 x, .int .u8 y] 33) := ⟨BgC.out.drew⟩
 generalize hwd : w4.drew = w1' at *
 clear hwd
 refine inv_at [0, 1, 2, 3, 4, 5] (fun a0_ b a w' => ∃ (x1_ : Gl) (y1_ : Hd) (x2_ : Gl) (y2_ : Hd) (m1_ : Value) (m3_ : Value), a = putSel a0_ b [(0, 14, .agg #[.slice hd1.a1 gl1.ct.length hd1.c1, .slice hd1.a2 gl1.an.length hd1.c2, .int .i64 gl1.hang.a, .int .i64 gl1.hang.b, .int .i64 gl1.hang.c, .int .i64 gl1.adv, .slice hd1.a3 gl1.dl.length hd1.c3, .slice hd1.a4 gl1.pr.length hd1.c4]), (1, 15, m1_), (2, 16, .agg #[.slice hd2.a1 gl2.ct.length hd2.c1, .slice hd2.a2 gl2.an.length hd2.c2, .int .i64 gl2.hang.a, .int .i64 gl2.hang.b, .int .i64 gl2.hang.c, .int .i64 gl2.adv, .slice hd2.a3 gl2.dl.length hd2.c3, .slice hd2.a4 gl2.pr.length hd2.c4]), (3, 17, m3_)] ∧ (Below w.heap.size w w') ∧ (b 4 = false → Blk w' gA #[.slice hd1.a1 gl1.ct.length hd1.c1, .slice hd1.a2 gl1.an.length hd1.c2, .int .i64 gl1.hang.a, .int .i64 gl1.hang.b, .int .i64 gl1.hang.c, .int .i64 gl1.adv, .slice hd1.a3 gl1.dl.length hd1.c3, .slice hd1.a4 gl1.pr.length hd1.c4] 29) ∧ (b 5 = false → Blk w' gB #[.slice hd2.a1 gl2.ct.length hd2.c1, .slice hd2.a2 gl2.an.length hd2.c2, .int .i64 gl2.hang.a, .int .i64 gl2.hang.b, .int .i64 gl2.hang.c, .int .i64 gl2.adv, .slice hd2.a3 gl2.dl.length hd2.c3, .slice hd2.a4 gl2.pr.length hd2.c4] 29) ∧ (Blk w' gC #[.slice A1 l1.length c1, .slice A2 l2.length c2, .slice A3 l3.length c3, .int .i64 o0, .int .i64 o1, .int .i64 o2, .int .u8 x, .int .u8 y] 33) ∧ (b 1 = true → GlQ w' w.heap.size x1_ y1_) ∧ (b 3 = true → GlQ w' w.heap.size x2_ y2_) ∧ (b 4 = true → Blk w' gA #[.slice y1_.a1 x1_.ct.length y1_.c1, .slice y1_.a2 x1_.an.length y1_.c2, .int .i64 x1_.hang.a, .int .i64 x1_.hang.b, .int .i64 x1_.hang.c, .int .i64 x1_.adv, .slice y1_.a3 x1_.dl.length y1_.c3, .slice y1_.a4 x1_.pr.length y1_.c4] 29) ∧ (b 5 = true → Blk w' gB #[.slice y2_.a1 x2_.ct.length y2_.c1, .slice y2_.a2 x2_.an.length y2_.c2, .int .i64 x2_.hang.a, .int .i64 x2_.hang.b, .int .i64 x2_.hang.c, .int .i64 x2_.adv, .slice y2_.a3 x2_.dl.length y2_.c3, .slice y2_.a4 x2_.pr.length y2_.c4] 29) ∧ (b 1 = true → (m1_ : Value) = .agg #[.slice y1_.a1 x1_.ct.length y1_.c1, .slice y1_.a2 x1_.an.length y1_.c2, .int .i64 x1_.hang.a, .int .i64 x1_.hang.b, .int .i64 x1_.hang.c, .int .i64 x1_.adv, .slice y1_.a3 x1_.dl.length y1_.c3, .slice y1_.a4 x1_.pr.length y1_.c4]) ∧ (b 3 = true → (m3_ : Value) = .agg #[.slice y2_.a1 x2_.ct.length y2_.c1, .slice y2_.a2 x2_.an.length y2_.c2, .int .i64 x2_.hang.a, .int .i64 x2_.hang.b, .int .i64 x2_.hang.c, .int .i64 x2_.adv, .slice y2_.a3 x2_.dl.length y2_.c3, .slice y2_.a4 x2_.pr.length y2_.c4])) HT_.out HW_.out (by kernel_rfl) (by kernel_rfl) ?_ ?_ ?_
 ·exact ⟨zGl, zHd, zGl, zHd, .bool false, .bool false, by simp only [putSel, Bool.false_eq_true, if_false], HB.out, fun _ => BA.out, fun _ => BB.out, BC.out, fun h_ => absurd h_ (by decide), fun h_ => absurd h_ (by decide), fun h_ => absurd h_ (by decide), fun h_ => absurd h_ (by decide), fun h_ => absurd h_ (by decide), fun h_ => absurd h_ (by decide)⟩
 ·skip
  clear BA BB BC HB
  refine steps_cons ?_ ?_
  ·rintro b a w' ⟨x1_, y1_, x2_, y2_, m1_, m3_, ha, QHB, QBA, QBB, QBC, QQA, QQB, QFA, QFB, QX1_, QX3_⟩ hb_ hon hoff
   refine ⟨_, rfl, fun K hK => ?_⟩
   have e3 : a.tmps[3]? = some (.pointer (some ⟨gA, 0, none⟩)) := by rw [ha]; exact (putSel_off rfl).trans rfl
   replace ha := aM_ ha
   have HB := aM_ QHB
   have BA := aM_ (QBA (hoff 4 rfl))
   have BB := aM_ (QBB (hoff 5 rfl))
   have BC := aM_ QBC
   have z0 := BA.out.cell 0
   have z1 := BA.out.cell 1
   have z2 := BA.out.cell 2
   have z3 := BA.out.cell 3
   have z4 := BA.out.cell 4
   have z5 := BA.out.cell 5
   have z6 := BA.out.cell 6
   have z7 := BA.out.cell 7
   refine value_ (w1 := w') (v := .agg #[.slice hd1.a1 gl1.ct.length hd1.c1, .slice hd1.a2 gl1.an.length hd1.c2, .int .i64 gl1.hang.a, .int .i64 gl1.hang.b, .int .i64 gl1.hang.c, .int .i64 gl1.adv, .slice hd1.a3 gl1.dl.length hd1.c3, .slice hd1.a4 gl1.pr.length hd1.c4]) (by rfl) rfl ?_ ?_
   ·go_simp
    (try simp only [i64_w])
    try rfl
    try assumption
   refine hK.out _ _ ⟨x1_, y1_, x2_, y2_, m1_, m3_, (by rw [ha.out]; exact putSel_upk 0 hb_ rfl rfl rfl), QHB, QBA, QBB, QBC, dD_ (hoff 1 rfl), dD_ (hoff 3 rfl), dD_ (hoff 4 rfl), dD_ (hoff 5 rfl), dD_ (hoff 1 rfl), dD_ (hoff 3 rfl)⟩
  refine steps_cons ?_ ?_
  ·rintro b a w' ⟨x1_, y1_, x2_, y2_, m1_, m3_, ha, QHB, QBA, QBB, QBC, QQA, QQB, QFA, QFB, QX1_, QX3_⟩ hb_ hon hoff
   refine ⟨_, rfl, fun K hK => ?_⟩
   have e14 : a.tmps[14]? = some (.agg #[.slice hd1.a1 gl1.ct.length hd1.c1, .slice hd1.a2 gl1.an.length hd1.c2, .int .i64 gl1.hang.a, .int .i64 gl1.hang.b, .int .i64 gl1.hang.c, .int .i64 gl1.adv, .slice hd1.a3 gl1.dl.length hd1.c3, .slice hd1.a4 gl1.pr.length hd1.c4]) := by rw [ha]; exact putSel_on (e := (0, 14, _)) 0 rfl rfl (hon 0 rfl) rfl
   replace ha := aM_ ha
   have HB := aM_ QHB
   have BA := aM_ (QBA (hoff 4 rfl))
   have BB := aM_ (QBB (hoff 5 rfl))
   have BC := aM_ QBC
   refine call_ 8 #[.agg #[.slice hd1.a1 gl1.ct.length hd1.c1, .slice hd1.a2 gl1.an.length hd1.c2, .int .i64 gl1.hang.a, .int .i64 gl1.hang.b, .int .i64 gl1.hang.c, .int .i64 gl1.adv, .slice hd1.a3 gl1.dl.length hd1.c3, .slice hd1.a4 gl1.pr.length hd1.c4]] (by rfl) rfl ?_ ?_
   ·go_simp
   refine (cut_any gl1 hd1 w' (HG1.out.below HB.out)).mono ?_
   rintro e w2' ⟨g_, h_, rfl, hq, hb⟩
   refine ⟨_, rfl, ?_⟩
   refine hK.out _ _ ⟨g_, h_, x2_, y2_, (.agg #[.slice h_.a1 g_.ct.length h_.c1, .slice h_.a2 g_.an.length h_.c2, .int .i64 g_.hang.a, .int .i64 g_.hang.b, .int .i64 g_.hang.c, .int .i64 g_.adv, .slice h_.a3 g_.dl.length h_.c3, .slice h_.a4 g_.pr.length h_.c4]), m3_, (by rw [ha.out]; exact putSel_upk 1 hb_ rfl rfl rfl), bthen' HB.out hb, fun _ => BA.out.below hb, fun _ => BB.out.below hb, BC.out.below hb, fun _ => hq.lower HB.out.size, dD_ (hoff 3 rfl), dD_ (hoff 4 rfl), dD_ (hoff 5 rfl), fun _ => rfl, dD_ (hoff 3 rfl)⟩
  refine steps_cons ?_ ?_
  ·rintro b a w' ⟨x1_, y1_, x2_, y2_, m1_, m3_, ha, QHB, QBA, QBB, QBC, QQA, QQB, QFA, QFB, QX1_, QX3_⟩ hb_ hon hoff
   refine ⟨_, rfl, fun K hK => ?_⟩
   have e4 : a.tmps[4]? = some (.pointer (some ⟨gB, 0, none⟩)) := by rw [ha]; exact (putSel_off rfl).trans rfl
   replace ha := aM_ ha
   have HB := aM_ QHB
   have BA := aM_ (QBA (hoff 4 rfl))
   have BB := aM_ (QBB (hoff 5 rfl))
   have BC := aM_ QBC
   have z0 := BB.out.cell 0
   have z1 := BB.out.cell 1
   have z2 := BB.out.cell 2
   have z3 := BB.out.cell 3
   have z4 := BB.out.cell 4
   have z5 := BB.out.cell 5
   have z6 := BB.out.cell 6
   have z7 := BB.out.cell 7
   refine value_ (w1 := w') (v := .agg #[.slice hd2.a1 gl2.ct.length hd2.c1, .slice hd2.a2 gl2.an.length hd2.c2, .int .i64 gl2.hang.a, .int .i64 gl2.hang.b, .int .i64 gl2.hang.c, .int .i64 gl2.adv, .slice hd2.a3 gl2.dl.length hd2.c3, .slice hd2.a4 gl2.pr.length hd2.c4]) (by rfl) rfl ?_ ?_
   ·go_simp
    (try simp only [i64_w])
    try rfl
    try assumption
   refine hK.out _ _ ⟨x1_, y1_, x2_, y2_, m1_, m3_, (by rw [ha.out]; exact putSel_upk 2 hb_ rfl rfl rfl), QHB, QBA, QBB, QBC, QQA, dD_ (hoff 3 rfl), dD_ (hoff 4 rfl), dD_ (hoff 5 rfl), QX1_, dD_ (hoff 3 rfl)⟩
  refine steps_cons ?_ ?_
  ·rintro b a w' ⟨x1_, y1_, x2_, y2_, m1_, m3_, ha, QHB, QBA, QBB, QBC, QQA, QQB, QFA, QFB, QX1_, QX3_⟩ hb_ hon hoff
   refine ⟨_, rfl, fun K hK => ?_⟩
   have e16 : a.tmps[16]? = some (.agg #[.slice hd2.a1 gl2.ct.length hd2.c1, .slice hd2.a2 gl2.an.length hd2.c2, .int .i64 gl2.hang.a, .int .i64 gl2.hang.b, .int .i64 gl2.hang.c, .int .i64 gl2.adv, .slice hd2.a3 gl2.dl.length hd2.c3, .slice hd2.a4 gl2.pr.length hd2.c4]) := by rw [ha]; exact putSel_on (e := (2, 16, _)) 2 rfl rfl (hon 2 rfl) rfl
   replace ha := aM_ ha
   have HB := aM_ QHB
   have BA := aM_ (QBA (hoff 4 rfl))
   have BB := aM_ (QBB (hoff 5 rfl))
   have BC := aM_ QBC
   have QA := aM_ (QQA (hon 1 rfl))
   refine call_ 8 #[.agg #[.slice hd2.a1 gl2.ct.length hd2.c1, .slice hd2.a2 gl2.an.length hd2.c2, .int .i64 gl2.hang.a, .int .i64 gl2.hang.b, .int .i64 gl2.hang.c, .int .i64 gl2.adv, .slice hd2.a3 gl2.dl.length hd2.c3, .slice hd2.a4 gl2.pr.length hd2.c4]] (by rfl) rfl ?_ ?_
   ·go_simp
   refine (cut_any gl2 hd2 w' (HG2.out.below HB.out)).mono ?_
   rintro e w2' ⟨g_, h_, rfl, hq, hb⟩
   refine ⟨_, rfl, ?_⟩
   refine hK.out _ _ ⟨x1_, y1_, g_, h_, m1_, (.agg #[.slice h_.a1 g_.ct.length h_.c1, .slice h_.a2 g_.an.length h_.c2, .int .i64 g_.hang.a, .int .i64 g_.hang.b, .int .i64 g_.hang.c, .int .i64 g_.adv, .slice h_.a3 g_.dl.length h_.c3, .slice h_.a4 g_.pr.length h_.c4]), (by rw [ha.out]; exact putSel_upk 3 hb_ rfl rfl rfl), bthen' HB.out hb, fun _ => BA.out.below hb, fun _ => BB.out.below hb, BC.out.below hb, fun _ => QA.out.below hb, fun _ => hq.lower HB.out.size, dD_ (hoff 4 rfl), dD_ (hoff 5 rfl), QX1_, fun _ => rfl⟩
  refine steps_cons ?_ ?_
  ·rintro b a w' ⟨x1_, y1_, x2_, y2_, m1_, m3_, ha, QHB, QBA, QBB, QBC, QQA, QQB, QFA, QFB, QX1_, QX3_⟩ hb_ hon hoff
   refine ⟨_, rfl, fun K hK => ?_⟩
   have e3 : a.tmps[3]? = some (.pointer (some ⟨gA, 0, none⟩)) := by rw [ha]; exact (putSel_off rfl).trans rfl
   have e15 : a.tmps[15]? = some (m1_) := by rw [ha]; exact putSel_on (e := (1, 15, _)) 1 rfl rfl (hon 1 rfl) rfl
   rw [QX1_ (hon 1 rfl)] at e15
   replace ha := aM_ ha
   have HB := aM_ QHB
   have BA := aM_ (QBA hb_)
   have BB := aM_ (QBB (hoff 5 rfl))
   have BC := aM_ QBC
   have QA := aM_ (QQA (hon 1 rfl))
   have QB := aM_ (QQB (hon 3 rfl))
   have c0 := BA.out.cell 0
   have c1 := BA.out.cell 1
   have c2 := BA.out.cell 2
   have c3 := BA.out.cell 3
   have c4 := BA.out.cell 4
   have c5 := BA.out.cell 5
   have c6 := BA.out.cell 6
   have c7 := BA.out.cell 7
   simp only [gA_, gZ_, gS_] at c0 c1 c2 c3 c4 c5 c6 c7
   have f0 := BA.out.frozen 0
   have f1 := BA.out.frozen 1
   have f2 := BA.out.frozen 2
   have f3 := BA.out.frozen 3
   have f4 := BA.out.frozen 4
   have f5 := BA.out.frozen 5
   have f6 := BA.out.frozen 6
   have f7 := BA.out.frozen 7
   refine skip_ (w1 := ((((((((w'.setCell ⟨gA, 0, none⟩ (.slice y1_.a1 x1_.ct.length y1_.c1)).setCell ⟨gA, 1, none⟩ (.slice y1_.a2 x1_.an.length y1_.c2)).setCell ⟨gA, 2, none⟩ (.int .i64 x1_.hang.a)).setCell ⟨gA, 3, none⟩ (.int .i64 x1_.hang.b)).setCell ⟨gA, 4, none⟩ (.int .i64 x1_.hang.c)).setCell ⟨gA, 5, none⟩ (.int .i64 x1_.adv)).setCell ⟨gA, 6, none⟩ (.slice y1_.a3 x1_.dl.length y1_.c3)).setCell ⟨gA, 7, none⟩ (.slice y1_.a4 x1_.pr.length y1_.c4))) (by rfl) rfl ?_ ?_
   ·go_simp
   refine hK.out _ _ ⟨x1_, y1_, x2_, y2_, m1_, m3_, (by rw [ha.out]; exact putSel_none (v := undef) rfl), (bset (bset (bset (bset (bset (bset (bset (bset HB.out HNE.out.2.2.2.1 0 (.slice y1_.a1 x1_.ct.length y1_.c1)) HNE.out.2.2.2.1 1 (.slice y1_.a2 x1_.an.length y1_.c2)) HNE.out.2.2.2.1 2 (.int .i64 x1_.hang.a)) HNE.out.2.2.2.1 3 (.int .i64 x1_.hang.b)) HNE.out.2.2.2.1 4 (.int .i64 x1_.hang.c)) HNE.out.2.2.2.1 5 (.int .i64 x1_.adv)) HNE.out.2.2.2.1 6 (.slice y1_.a3 x1_.dl.length y1_.c3)) HNE.out.2.2.2.1 7 (.slice y1_.a4 x1_.pr.length y1_.c4)), dE_ (up_self b 4), fun _ => ((((((((BB.out.far (Ne.symm HNE.out.1) 0 (.slice y1_.a1 x1_.ct.length y1_.c1)).far (Ne.symm HNE.out.1) 1 (.slice y1_.a2 x1_.an.length y1_.c2)).far (Ne.symm HNE.out.1) 2 (.int .i64 x1_.hang.a)).far (Ne.symm HNE.out.1) 3 (.int .i64 x1_.hang.b)).far (Ne.symm HNE.out.1) 4 (.int .i64 x1_.hang.c)).far (Ne.symm HNE.out.1) 5 (.int .i64 x1_.adv)).far (Ne.symm HNE.out.1) 6 (.slice y1_.a3 x1_.dl.length y1_.c3)).far (Ne.symm HNE.out.1) 7 (.slice y1_.a4 x1_.pr.length y1_.c4)), ((((((((BC.out.far (Ne.symm HNE.out.2.1) 0 (.slice y1_.a1 x1_.ct.length y1_.c1)).far (Ne.symm HNE.out.2.1) 1 (.slice y1_.a2 x1_.an.length y1_.c2)).far (Ne.symm HNE.out.2.1) 2 (.int .i64 x1_.hang.a)).far (Ne.symm HNE.out.2.1) 3 (.int .i64 x1_.hang.b)).far (Ne.symm HNE.out.2.1) 4 (.int .i64 x1_.hang.c)).far (Ne.symm HNE.out.2.1) 5 (.int .i64 x1_.adv)).far (Ne.symm HNE.out.2.1) 6 (.slice y1_.a3 x1_.dl.length y1_.c3)).far (Ne.symm HNE.out.2.1) 7 (.slice y1_.a4 x1_.pr.length y1_.c4)), fun _ => ((((((((QA.out.set BA.out 0 (.slice y1_.a1 x1_.ct.length y1_.c1)).set (BA.out.set 0 (.slice y1_.a1 x1_.ct.length y1_.c1)) 1 (.slice y1_.a2 x1_.an.length y1_.c2)).set ((BA.out.set 0 (.slice y1_.a1 x1_.ct.length y1_.c1)).set 1 (.slice y1_.a2 x1_.an.length y1_.c2)) 2 (.int .i64 x1_.hang.a)).set (((BA.out.set 0 (.slice y1_.a1 x1_.ct.length y1_.c1)).set 1 (.slice y1_.a2 x1_.an.length y1_.c2)).set 2 (.int .i64 x1_.hang.a)) 3 (.int .i64 x1_.hang.b)).set ((((BA.out.set 0 (.slice y1_.a1 x1_.ct.length y1_.c1)).set 1 (.slice y1_.a2 x1_.an.length y1_.c2)).set 2 (.int .i64 x1_.hang.a)).set 3 (.int .i64 x1_.hang.b)) 4 (.int .i64 x1_.hang.c)).set (((((BA.out.set 0 (.slice y1_.a1 x1_.ct.length y1_.c1)).set 1 (.slice y1_.a2 x1_.an.length y1_.c2)).set 2 (.int .i64 x1_.hang.a)).set 3 (.int .i64 x1_.hang.b)).set 4 (.int .i64 x1_.hang.c)) 5 (.int .i64 x1_.adv)).set ((((((BA.out.set 0 (.slice y1_.a1 x1_.ct.length y1_.c1)).set 1 (.slice y1_.a2 x1_.an.length y1_.c2)).set 2 (.int .i64 x1_.hang.a)).set 3 (.int .i64 x1_.hang.b)).set 4 (.int .i64 x1_.hang.c)).set 5 (.int .i64 x1_.adv)) 6 (.slice y1_.a3 x1_.dl.length y1_.c3)).set (((((((BA.out.set 0 (.slice y1_.a1 x1_.ct.length y1_.c1)).set 1 (.slice y1_.a2 x1_.an.length y1_.c2)).set 2 (.int .i64 x1_.hang.a)).set 3 (.int .i64 x1_.hang.b)).set 4 (.int .i64 x1_.hang.c)).set 5 (.int .i64 x1_.adv)).set 6 (.slice y1_.a3 x1_.dl.length y1_.c3)) 7 (.slice y1_.a4 x1_.pr.length y1_.c4)), fun _ => ((((((((QB.out.set BA.out 0 (.slice y1_.a1 x1_.ct.length y1_.c1)).set (BA.out.set 0 (.slice y1_.a1 x1_.ct.length y1_.c1)) 1 (.slice y1_.a2 x1_.an.length y1_.c2)).set ((BA.out.set 0 (.slice y1_.a1 x1_.ct.length y1_.c1)).set 1 (.slice y1_.a2 x1_.an.length y1_.c2)) 2 (.int .i64 x1_.hang.a)).set (((BA.out.set 0 (.slice y1_.a1 x1_.ct.length y1_.c1)).set 1 (.slice y1_.a2 x1_.an.length y1_.c2)).set 2 (.int .i64 x1_.hang.a)) 3 (.int .i64 x1_.hang.b)).set ((((BA.out.set 0 (.slice y1_.a1 x1_.ct.length y1_.c1)).set 1 (.slice y1_.a2 x1_.an.length y1_.c2)).set 2 (.int .i64 x1_.hang.a)).set 3 (.int .i64 x1_.hang.b)) 4 (.int .i64 x1_.hang.c)).set (((((BA.out.set 0 (.slice y1_.a1 x1_.ct.length y1_.c1)).set 1 (.slice y1_.a2 x1_.an.length y1_.c2)).set 2 (.int .i64 x1_.hang.a)).set 3 (.int .i64 x1_.hang.b)).set 4 (.int .i64 x1_.hang.c)) 5 (.int .i64 x1_.adv)).set ((((((BA.out.set 0 (.slice y1_.a1 x1_.ct.length y1_.c1)).set 1 (.slice y1_.a2 x1_.an.length y1_.c2)).set 2 (.int .i64 x1_.hang.a)).set 3 (.int .i64 x1_.hang.b)).set 4 (.int .i64 x1_.hang.c)).set 5 (.int .i64 x1_.adv)) 6 (.slice y1_.a3 x1_.dl.length y1_.c3)).set (((((((BA.out.set 0 (.slice y1_.a1 x1_.ct.length y1_.c1)).set 1 (.slice y1_.a2 x1_.an.length y1_.c2)).set 2 (.int .i64 x1_.hang.a)).set 3 (.int .i64 x1_.hang.b)).set 4 (.int .i64 x1_.hang.c)).set 5 (.int .i64 x1_.adv)).set 6 (.slice y1_.a3 x1_.dl.length y1_.c3)) 7 (.slice y1_.a4 x1_.pr.length y1_.c4)), fun _ => ((((((((BA.out.put 0 (.slice y1_.a1 x1_.ct.length y1_.c1) rfl).put 1 (.slice y1_.a2 x1_.an.length y1_.c2) rfl).put 2 (.int .i64 x1_.hang.a) rfl).put 3 (.int .i64 x1_.hang.b) rfl).put 4 (.int .i64 x1_.hang.c) rfl).put 5 (.int .i64 x1_.adv) rfl).put 6 (.slice y1_.a3 x1_.dl.length y1_.c3) rfl).put 7 (.slice y1_.a4 x1_.pr.length y1_.c4) rfl), dD_ (hoff 5 rfl), QX1_, QX3_⟩
  refine steps_cons ?_ ?_
  ·rintro b a w' ⟨x1_, y1_, x2_, y2_, m1_, m3_, ha, QHB, QBA, QBB, QBC, QQA, QQB, QFA, QFB, QX1_, QX3_⟩ hb_ hon hoff
   refine ⟨_, rfl, fun K hK => ?_⟩
   have e4 : a.tmps[4]? = some (.pointer (some ⟨gB, 0, none⟩)) := by rw [ha]; exact (putSel_off rfl).trans rfl
   have e17 : a.tmps[17]? = some (m3_) := by rw [ha]; exact putSel_on (e := (3, 17, _)) 3 rfl rfl (hon 3 rfl) rfl
   rw [QX3_ (hon 3 rfl)] at e17
   replace ha := aM_ ha
   have HB := aM_ QHB
   have BB := aM_ (QBB hb_)
   have BC := aM_ QBC
   have QA := aM_ (QQA (hon 1 rfl))
   have QB := aM_ (QQB (hon 3 rfl))
   have FA := aM_ (QFA (hon 4 rfl))
   have c0 := BB.out.cell 0
   have c1 := BB.out.cell 1
   have c2 := BB.out.cell 2
   have c3 := BB.out.cell 3
   have c4 := BB.out.cell 4
   have c5 := BB.out.cell 5
   have c6 := BB.out.cell 6
   have c7 := BB.out.cell 7
   simp only [gA_, gZ_, gS_] at c0 c1 c2 c3 c4 c5 c6 c7
   have f0 := BB.out.frozen 0
   have f1 := BB.out.frozen 1
   have f2 := BB.out.frozen 2
   have f3 := BB.out.frozen 3
   have f4 := BB.out.frozen 4
   have f5 := BB.out.frozen 5
   have f6 := BB.out.frozen 6
   have f7 := BB.out.frozen 7
   refine skip_ (w1 := ((((((((w'.setCell ⟨gB, 0, none⟩ (.slice y2_.a1 x2_.ct.length y2_.c1)).setCell ⟨gB, 1, none⟩ (.slice y2_.a2 x2_.an.length y2_.c2)).setCell ⟨gB, 2, none⟩ (.int .i64 x2_.hang.a)).setCell ⟨gB, 3, none⟩ (.int .i64 x2_.hang.b)).setCell ⟨gB, 4, none⟩ (.int .i64 x2_.hang.c)).setCell ⟨gB, 5, none⟩ (.int .i64 x2_.adv)).setCell ⟨gB, 6, none⟩ (.slice y2_.a3 x2_.dl.length y2_.c3)).setCell ⟨gB, 7, none⟩ (.slice y2_.a4 x2_.pr.length y2_.c4))) (by rfl) rfl ?_ ?_
   ·go_simp
   refine hK.out _ _ ⟨x1_, y1_, x2_, y2_, m1_, m3_, (by rw [ha.out]; exact putSel_none (v := undef) rfl), (bset (bset (bset (bset (bset (bset (bset (bset HB.out HNE.out.2.2.2.2 0 (.slice y2_.a1 x2_.ct.length y2_.c1)) HNE.out.2.2.2.2 1 (.slice y2_.a2 x2_.an.length y2_.c2)) HNE.out.2.2.2.2 2 (.int .i64 x2_.hang.a)) HNE.out.2.2.2.2 3 (.int .i64 x2_.hang.b)) HNE.out.2.2.2.2 4 (.int .i64 x2_.hang.c)) HNE.out.2.2.2.2 5 (.int .i64 x2_.adv)) HNE.out.2.2.2.2 6 (.slice y2_.a3 x2_.dl.length y2_.c3)) HNE.out.2.2.2.2 7 (.slice y2_.a4 x2_.pr.length y2_.c4)), fun h0_ => absurd ((hon 4 rfl).symm.trans h0_) (by decide), dE_ (up_self b 5), ((((((((BC.out.far (Ne.symm HNE.out.2.2.1) 0 (.slice y2_.a1 x2_.ct.length y2_.c1)).far (Ne.symm HNE.out.2.2.1) 1 (.slice y2_.a2 x2_.an.length y2_.c2)).far (Ne.symm HNE.out.2.2.1) 2 (.int .i64 x2_.hang.a)).far (Ne.symm HNE.out.2.2.1) 3 (.int .i64 x2_.hang.b)).far (Ne.symm HNE.out.2.2.1) 4 (.int .i64 x2_.hang.c)).far (Ne.symm HNE.out.2.2.1) 5 (.int .i64 x2_.adv)).far (Ne.symm HNE.out.2.2.1) 6 (.slice y2_.a3 x2_.dl.length y2_.c3)).far (Ne.symm HNE.out.2.2.1) 7 (.slice y2_.a4 x2_.pr.length y2_.c4)), fun _ => ((((((((QA.out.set BB.out 0 (.slice y2_.a1 x2_.ct.length y2_.c1)).set (BB.out.set 0 (.slice y2_.a1 x2_.ct.length y2_.c1)) 1 (.slice y2_.a2 x2_.an.length y2_.c2)).set ((BB.out.set 0 (.slice y2_.a1 x2_.ct.length y2_.c1)).set 1 (.slice y2_.a2 x2_.an.length y2_.c2)) 2 (.int .i64 x2_.hang.a)).set (((BB.out.set 0 (.slice y2_.a1 x2_.ct.length y2_.c1)).set 1 (.slice y2_.a2 x2_.an.length y2_.c2)).set 2 (.int .i64 x2_.hang.a)) 3 (.int .i64 x2_.hang.b)).set ((((BB.out.set 0 (.slice y2_.a1 x2_.ct.length y2_.c1)).set 1 (.slice y2_.a2 x2_.an.length y2_.c2)).set 2 (.int .i64 x2_.hang.a)).set 3 (.int .i64 x2_.hang.b)) 4 (.int .i64 x2_.hang.c)).set (((((BB.out.set 0 (.slice y2_.a1 x2_.ct.length y2_.c1)).set 1 (.slice y2_.a2 x2_.an.length y2_.c2)).set 2 (.int .i64 x2_.hang.a)).set 3 (.int .i64 x2_.hang.b)).set 4 (.int .i64 x2_.hang.c)) 5 (.int .i64 x2_.adv)).set ((((((BB.out.set 0 (.slice y2_.a1 x2_.ct.length y2_.c1)).set 1 (.slice y2_.a2 x2_.an.length y2_.c2)).set 2 (.int .i64 x2_.hang.a)).set 3 (.int .i64 x2_.hang.b)).set 4 (.int .i64 x2_.hang.c)).set 5 (.int .i64 x2_.adv)) 6 (.slice y2_.a3 x2_.dl.length y2_.c3)).set (((((((BB.out.set 0 (.slice y2_.a1 x2_.ct.length y2_.c1)).set 1 (.slice y2_.a2 x2_.an.length y2_.c2)).set 2 (.int .i64 x2_.hang.a)).set 3 (.int .i64 x2_.hang.b)).set 4 (.int .i64 x2_.hang.c)).set 5 (.int .i64 x2_.adv)).set 6 (.slice y2_.a3 x2_.dl.length y2_.c3)) 7 (.slice y2_.a4 x2_.pr.length y2_.c4)), fun _ => ((((((((QB.out.set BB.out 0 (.slice y2_.a1 x2_.ct.length y2_.c1)).set (BB.out.set 0 (.slice y2_.a1 x2_.ct.length y2_.c1)) 1 (.slice y2_.a2 x2_.an.length y2_.c2)).set ((BB.out.set 0 (.slice y2_.a1 x2_.ct.length y2_.c1)).set 1 (.slice y2_.a2 x2_.an.length y2_.c2)) 2 (.int .i64 x2_.hang.a)).set (((BB.out.set 0 (.slice y2_.a1 x2_.ct.length y2_.c1)).set 1 (.slice y2_.a2 x2_.an.length y2_.c2)).set 2 (.int .i64 x2_.hang.a)) 3 (.int .i64 x2_.hang.b)).set ((((BB.out.set 0 (.slice y2_.a1 x2_.ct.length y2_.c1)).set 1 (.slice y2_.a2 x2_.an.length y2_.c2)).set 2 (.int .i64 x2_.hang.a)).set 3 (.int .i64 x2_.hang.b)) 4 (.int .i64 x2_.hang.c)).set (((((BB.out.set 0 (.slice y2_.a1 x2_.ct.length y2_.c1)).set 1 (.slice y2_.a2 x2_.an.length y2_.c2)).set 2 (.int .i64 x2_.hang.a)).set 3 (.int .i64 x2_.hang.b)).set 4 (.int .i64 x2_.hang.c)) 5 (.int .i64 x2_.adv)).set ((((((BB.out.set 0 (.slice y2_.a1 x2_.ct.length y2_.c1)).set 1 (.slice y2_.a2 x2_.an.length y2_.c2)).set 2 (.int .i64 x2_.hang.a)).set 3 (.int .i64 x2_.hang.b)).set 4 (.int .i64 x2_.hang.c)).set 5 (.int .i64 x2_.adv)) 6 (.slice y2_.a3 x2_.dl.length y2_.c3)).set (((((((BB.out.set 0 (.slice y2_.a1 x2_.ct.length y2_.c1)).set 1 (.slice y2_.a2 x2_.an.length y2_.c2)).set 2 (.int .i64 x2_.hang.a)).set 3 (.int .i64 x2_.hang.b)).set 4 (.int .i64 x2_.hang.c)).set 5 (.int .i64 x2_.adv)).set 6 (.slice y2_.a3 x2_.dl.length y2_.c3)) 7 (.slice y2_.a4 x2_.pr.length y2_.c4)), fun _ => ((((((((FA.out.far HNE.out.1 0 (.slice y2_.a1 x2_.ct.length y2_.c1)).far HNE.out.1 1 (.slice y2_.a2 x2_.an.length y2_.c2)).far HNE.out.1 2 (.int .i64 x2_.hang.a)).far HNE.out.1 3 (.int .i64 x2_.hang.b)).far HNE.out.1 4 (.int .i64 x2_.hang.c)).far HNE.out.1 5 (.int .i64 x2_.adv)).far HNE.out.1 6 (.slice y2_.a3 x2_.dl.length y2_.c3)).far HNE.out.1 7 (.slice y2_.a4 x2_.pr.length y2_.c4)), fun _ => ((((((((BB.out.put 0 (.slice y2_.a1 x2_.ct.length y2_.c1) rfl).put 1 (.slice y2_.a2 x2_.an.length y2_.c2) rfl).put 2 (.int .i64 x2_.hang.a) rfl).put 3 (.int .i64 x2_.hang.b) rfl).put 4 (.int .i64 x2_.hang.c) rfl).put 5 (.int .i64 x2_.adv) rfl).put 6 (.slice y2_.a3 x2_.dl.length y2_.c3) rfl).put 7 (.slice y2_.a4 x2_.pr.length y2_.c4) rfl), QX1_, QX3_⟩
  exact steps_nil
 ·rintro b a w' hall ⟨x1_, y1_, x2_, y2_, m1_, m3_, ha, QHB, QBA, QBB, QBC, QQA, QQB, QFA, QFB, QX1_, QX3_⟩
  clear BA BB BC HB
  have hb0_ := hall 0 (by kernel_rfl)
  have hb1_ := hall 1 (by kernel_rfl)
  have hb2_ := hall 2 (by kernel_rfl)
  have hb3_ := hall 3 (by kernel_rfl)
  have hb4_ := hall 4 (by kernel_rfl)
  have hb5_ := hall 5 (by kernel_rfl)
  subst ha
  obtain rfl := QX1_ hb1_
  obtain rfl := QX3_ hb3_
  simp only [putSel, hb0_, hb1_, hb2_, hb3_, hb4_, hb5_, if_true, Act.put, List.setIfInBounds_toArray, List.set_cons_zero, List.set_cons_succ]
  have HB := aM_ QHB
  clear QHB
  clear QBA
  clear QBB
  have BC := aM_ QBC
  clear QBC
  have QA := aM_ (QQA hb1_)
  clear QQA
  have QB := aM_ (QQB hb3_)
  clear QQB
  have FA := aM_ (QFA hb4_)
  clear QFA
  have FB := aM_ (QFB hb5_)
  clear QFB
  clear hall hb0_ hb1_ hb2_ hb3_ hb4_ hb5_
  generalize w' = w5 at *
  have HX5 := lH_ HB.out
  have HGA := lH_ QA.out.glR
  have HGB := lH_ QB.out.glR
  have BgA_ := lH_ FA.out
  have BgB_ := lH_ FB.out
  have BgC_ := lH_ BC.out
  clear HB QA QB FA FB BC HW_ HT_ HX BgA BgB BgC
  have HX := HX5
  have BgA := BgA_
  have BgB := BgB_
  have BgC := BgC_
  clear HX5 BgA_ BgB_ BgC_
  have q0 := BgC.out.cell 0
  have q1 := BgC.out.cell 1
  have q2 := BgC.out.cell 2
  have q3 := BgC.out.cell 3
  have q4 := BgC.out.cell 4
  have q5 := BgC.out.cell 5
  have q6 := BgC.out.cell 6
  have q7 := BgC.out.cell 7
  simp only [gA_, gZ_, gS_] at q0 q1 q2 q3 q4 q5 q6 q7
  go_wp2_with fail
  refine (case_any l1 l2 l3 A1 A2 A3 c1 c2 c3 o0 o1 o2 x y w5 HBX.out HBY.out (Kd.C_below HC1.out HX.out) (Kd.C_below HC2.out HX.out) (Kd.C_below HC3.out HX.out) HCP2.out).mono ?_
  rintro e v ⟨g, yc, rs, Ar, cr, ns, Ba, ca, rfl, hcp⟩
  have hb := hcp.below
  have HCP := lH_ hcp
  clear hcp
  have HXA := lH_ hb
  replace HX := lH_ (bthen' HX.out hb)
  replace BgA := lH_ (BgA.out.below hb)
  replace BgB := lH_ (BgB.out.below hb)
  replace BgC := lH_ (BgC.out.below hb)
  clear hb
  have HXR := lH_ (Below.refl v.heap.size v)
  clear q0 q1 q2 q3 q4 q5 q6 q7 HC1 HC2 HC3 HCP2 HBX HBY
  unfold gv
  go_upto_region 4 with fail
  obtain ⟨v2, gG, hw0_, hg0_, XgG_, YgG_, _⟩ := new_box v #[.slice yc.a1 g.ct.length yc.c1, .slice yc.a2 g.an.length yc.c2, .int .i64 g.hang.a, .int .i64 g.hang.b, .int .i64 g.hang.c, .int .i64 g.adv, .slice yc.a3 g.dl.length yc.c3, .slice yc.a4 g.pr.length yc.c4] 29
  rw [hw0_, hg0_]
  have EgG := lH_ (show gG = v.heap.size + 0 by omega)
  clear hw0_ hg0_
  have HXv2 := lH_ (YgG_.out)
  have BgG := lH_ (XgG_.out)
  clear XgG_ YgG_
  have hb := HXv2.out
  replace HX := lH_ (bthen' HX.out hb)
  replace HXA := lH_ (bthen' HXA.out hb)
  replace HXR := lH_ (bthen' HXR.out hb)
  replace BgA := lH_ (BgA.out.below hb)
  replace BgB := lH_ (BgB.out.below hb)
  replace BgC := lH_ (BgC.out.below hb)
  clear hb
  clear HXv2
  have z0 := BgG.out.cell 0
  have z1 := BgG.out.cell 1
  have z2 := BgG.out.cell 2
  have z3 := BgG.out.cell 3
  have z4 := BgG.out.cell 4
  have z5 := BgG.out.cell 5
  have z6 := BgG.out.cell 6
  have z7 := BgG.out.cell 7
  simp only [gA_, gZ_, gS_] at z0 z1 z2 z3 z4 z5 z6 z7
  have q3 := BgC.out.cell 3
  have q4 := BgC.out.cell 4
  have q5 := BgC.out.cell 5
  simp only [gA_, gZ_, gS_] at q3 q4 q5
  go_wp2_with fail
  refine (odd_any g yc o0 o1 o2 v2 (HCP.out.gl.below HXR.out) (md_len HCP.out.md).1 (md_len HCP.out.md).2.1 (md_len HCP.out.md).2.2).mono ?_
  rintro e v3 ⟨go, ho, rfl, hgo, hb⟩
  replace HX := lH_ (bthen' HX.out hb)
  replace HXA := lH_ (bthen' HXA.out hb)
  replace HXR := lH_ (bthen' HXR.out hb)
  replace BgA := lH_ (BgA.out.below hb)
  replace BgB := lH_ (BgB.out.below hb)
  replace BgC := lH_ (BgC.out.below hb)
  replace BgG := lH_ (BgG.out.below hb)
  clear hb
  have HGO := lH_ hgo
  have HXO := lH_ (Below.refl v3.heap.size v3)
  clear hgo z0 z1 z2 z3 z4 z5 z6 z7 q3 q4 q5
  unfold gv
  go_upto_region 5 with fail
  obtain ⟨v4, gO, hw0_, hg0_, XgO_, YgO_, _⟩ := new_box v3 #[.slice ho.a1 go.ct.length ho.c1, .slice ho.a2 go.an.length ho.c2, .int .i64 go.hang.a, .int .i64 go.hang.b, .int .i64 go.hang.c, .int .i64 go.adv, .slice ho.a3 go.dl.length ho.c3, .slice ho.a4 go.pr.length ho.c4] 29
  rw [hw0_, hg0_]
  have EgO := lH_ (show gO = v3.heap.size + 0 by omega)
  clear hw0_ hg0_
  have HXv4 := lH_ (YgO_.out)
  have BgO := lH_ (XgO_.out)
  clear XgO_ YgO_
  have hb := HXv4.out
  replace HX := lH_ (bthen' HX.out hb)
  replace HXA := lH_ (bthen' HXA.out hb)
  replace HXR := lH_ (bthen' HXR.out hb)
  replace HXO := lH_ (bthen' HXO.out hb)
  replace BgA := lH_ (BgA.out.below hb)
  replace BgB := lH_ (BgB.out.below hb)
  replace BgC := lH_ (BgC.out.below hb)
  replace BgG := lH_ (BgG.out.below hb)
  clear hb
  clear HXv4
  have z0 := BgG.out.cell 0
  have z1 := BgG.out.cell 1
  have z2 := BgG.out.cell 2
  have z3 := BgG.out.cell 3
  have z4 := BgG.out.cell 4
  have z5 := BgG.out.cell 5
  have z6 := BgG.out.cell 6
  have z7 := BgG.out.cell 7
  simp only [gA_, gZ_, gS_] at z0 z1 z2 z3 z4 z5 z6 z7
  go_upto_region 6 with fail
  clear z0 z1 z2 z3 z4 z5 z6 z7
  have HS4 := lH_ (show w.heap.size ≤ v4.heap.size ∧ w5.heap.size ≤ v4.heap.size ∧ v.heap.size ≤ v4.heap.size ∧ v3.heap.size ≤ v4.heap.size from ⟨HX.out.size, HXA.out.size, HXR.out.size, HXO.out.size⟩)
  have HLT := lH_ (show gA < v4.heap.size ∧ gB < v4.heap.size ∧ gC < v4.heap.size ∧ gG < v4.heap.size ∧ gO < v4.heap.size from ⟨BgA.out.lt, BgB.out.lt, BgC.out.lt, BgG.out.lt, BgO.out.lt⟩)
  obtain ⟨v5, gP, hw0_, hg0_, XgP_, YgP_, _⟩ := new_box v4 #[.slice yc.a1 g.ct.length yc.c1, .slice yc.a2 g.an.length yc.c2, .int .i64 g.hang.a, .int .i64 g.hang.b, .int .i64 g.hang.c, .int .i64 g.adv, .slice yc.a3 g.dl.length yc.c3, .slice yc.a4 g.pr.length yc.c4] 29
  rw [hw0_, hg0_]
  have EgP := lH_ (show gP = v4.heap.size + 0 by omega)
  clear hw0_ hg0_
  have HXv5 := lH_ (YgP_.out)
  have BgP := lH_ (XgP_.out)
  clear XgP_ YgP_
  have hb := HXv5.out
  replace HX := lH_ (bthen' HX.out hb)
  replace HXA := lH_ (bthen' HXA.out hb)
  replace HXR := lH_ (bthen' HXR.out hb)
  replace HXO := lH_ (bthen' HXO.out hb)
  replace BgA := lH_ (BgA.out.below hb)
  replace BgB := lH_ (BgB.out.below hb)
  replace BgC := lH_ (BgC.out.below hb)
  replace BgG := lH_ (BgG.out.below hb)
  replace BgO := lH_ (BgO.out.below hb)
  clear hb
  clear HXv5
  have HGP := lH_ (show w.heap.size ≤ gP ∧ w5.heap.size ≤ gP ∧ v.heap.size ≤ gP ∧ v3.heap.size ≤ gP by have := EgP.out; have := HS4.out; omega)
  have HNP := lH_ (show gA ≠ gP ∧ gB ≠ gP ∧ gC ≠ gP ∧ gG ≠ gP ∧ gO ≠ gP by have := EgP.out; have := HLT.out; omega)
  have q3 := BgC.out.cell 3
  simp only [gA_, gZ_, gS_] at q3
  have k7 := BgP.out.frozen 7
  have y7 := BgP.out.cell 7
  simp only [gA_, gZ_, gS_] at y7
  have hgu : gP < v5.heap.size := BgP.out.lt
  go_upto_region 7 with fail
  replace BgA := lH_ ((BgA.out.far HNP.out.1 7 (.slice (some ⟨v5.heap.size, 0, none⟩) 1 1)).alloc (.cells #[.int .i64 1, .int .i64 o0] 41))
  replace BgB := lH_ ((BgB.out.far HNP.out.2.1 7 (.slice (some ⟨v5.heap.size, 0, none⟩) 1 1)).alloc (.cells #[.int .i64 1, .int .i64 o0] 41))
  replace BgG := lH_ ((BgG.out.far HNP.out.2.2.2.1 7 (.slice (some ⟨v5.heap.size, 0, none⟩) 1 1)).alloc (.cells #[.int .i64 1, .int .i64 o0] 41))
  replace BgO := lH_ ((BgO.out.far HNP.out.2.2.2.2 7 (.slice (some ⟨v5.heap.size, 0, none⟩) 1 1)).alloc (.cells #[.int .i64 1, .int .i64 o0] 41))
  replace BgP := lH_ ((BgP.out.put 7 (.slice (some ⟨v5.heap.size, 0, none⟩) 1 1) rfl).alloc (.cells #[.int .i64 1, .int .i64 o0] 41))
  replace HX := lH_ (bthen' (bset HX.out HGP.out.1 7 (.slice (some ⟨v5.heap.size, 0, none⟩) 1 1)) (below_alloc (Below.refl _ _) (.cells #[.int .i64 1, .int .i64 o0] 41)))
  replace HXA := lH_ (bthen' (bset HXA.out HGP.out.2.1 7 (.slice (some ⟨v5.heap.size, 0, none⟩) 1 1)) (below_alloc (Below.refl _ _) (.cells #[.int .i64 1, .int .i64 o0] 41)))
  replace HXR := lH_ (bthen' (bset HXR.out HGP.out.2.2.1 7 (.slice (some ⟨v5.heap.size, 0, none⟩) 1 1)) (below_alloc (Below.refl _ _) (.cells #[.int .i64 1, .int .i64 o0] 41)))
  replace HXO := lH_ (bthen' (bset HXO.out HGP.out.2.2.2 7 (.slice (some ⟨v5.heap.size, 0, none⟩) 1 1)) (below_alloc (Below.refl _ _) (.cells #[.int .i64 1, .int .i64 o0] 41)))
  have hsz : (v5.setCell ⟨gP, 7, none⟩ (.slice (some ⟨v5.heap.size, 0, none⟩) 1 1)).heap.size = v5.heap.size := by simp
  have hlit := R_lit1 kI2 41 (v5.setCell ⟨gP, 7, none⟩ (.slice (some ⟨v5.heap.size, 0, none⟩) 1 1)) 0 (Nat.zero_le _) ⟨1, o0⟩ [.int .i64 1, .int .i64 o0] (kI2_mkM _ _ _ ⟨1, o0⟩)
  rw [hsz] at hlit
  have HGPr := lH_ (show GlR ((v5.setCell ⟨gP, 7, none⟩ (.slice (some ⟨v5.heap.size, 0, none⟩) 1 1)).alloc (.cells #[.int .i64 1, .int .i64 o0] 41)) ⟨g.ct, g.an, g.hang, g.adv, g.dl, [⟨1, o0⟩]⟩ ⟨yc.a1, yc.c1, yc.a2, yc.c2, yc.a3, yc.c3, some ⟨v5.heap.size, 0, none⟩, 1⟩ from ⟨Kd.C_below HCP.out.gl.ct HXR.out, Kd.C_below HCP.out.gl.an HXR.out, Kd.C_below HCP.out.gl.dl HXR.out, Sc_len8 hlit, HCP.out.gl.l1, HCP.out.gl.l2, HCP.out.gl.l3, Nat.le_refl 1⟩)
  clear hsz hlit k7 y7 q3 hgu
  simp only [List.setIfInBounds_toArray, List.set_cons_succ, List.set_cons_zero] at BgP
  generalize World.alloc _ _ = v6 at *
  obtain ⟨gq, hgq⟩ : ∃ q, v5.heap.size = q := ⟨_, rfl⟩
  rw [hgq] at HGPr BgP
  clear hgq
  have HA6 := lH_ (HGA.out.below HXA.out)
  have HB6 := lH_ (HGB.out.below HXA.out)
  have HG6 := lH_ (HCP.out.gl.below HXR.out)
  have HO6 := lH_ (HGO.out.below HXO.out)
  have HS1 := lH_ (sameB_refl x1_)
  have HS2 := lH_ (sameB_refl (⟨g.ct, g.an, g.hang, g.adv, g.dl, [⟨1, o0⟩]⟩ : Gl))
  have HS3 := lH_ (show sameB g ⟨g.ct, g.an, g.hang, g.adv, g.dl, [⟨1, o0⟩]⟩ = false from sameB_pr (by rw [HCP.out.md.pr]; exact fun h_ => by cases h_))
  refine start_ (n := 36) (S := fun w' => True) (ds := []) #[false, false, false, false, false, false, false, false, false, false, false, false, false, false, false, false, false, false, false, false, false, false, false, false, false, false, false, false, false, false, false, false, false, false, false, false] (by kernel_rfl) rfl rfl trivial (fun hHeld => ?_)
  refine with_tabW oOs7.tab7 oOs7.bits7 (fun HT_ HW_ => ?_)
  have HB : Aside0 (Below v6.heap.size v6 v6.drew) := ⟨bdrew (Below.refl _ _)⟩
  have BA : Aside0 (Blk v6.drew gA #[.slice y1_.a1 x1_.ct.length y1_.c1, .slice y1_.a2 x1_.an.length y1_.c2, .int .i64 x1_.hang.a, .int .i64 x1_.hang.b, .int .i64 x1_.hang.c, .int .i64 x1_.adv, .slice y1_.a3 x1_.dl.length y1_.c3, .slice y1_.a4 x1_.pr.length y1_.c4] 29) := ⟨BgA.out.drew⟩
  have BB : Aside0 (Blk v6.drew gB #[.slice y2_.a1 x2_.ct.length y2_.c1, .slice y2_.a2 x2_.an.length y2_.c2, .int .i64 x2_.hang.a, .int .i64 x2_.hang.b, .int .i64 x2_.hang.c, .int .i64 x2_.adv, .slice y2_.a3 x2_.dl.length y2_.c3, .slice y2_.a4 x2_.pr.length y2_.c4] 29) := ⟨BgB.out.drew⟩
  have BG : Aside0 (Blk v6.drew gG #[.slice yc.a1 g.ct.length yc.c1, .slice yc.a2 g.an.length yc.c2, .int .i64 g.hang.a, .int .i64 g.hang.b, .int .i64 g.hang.c, .int .i64 g.adv, .slice yc.a3 g.dl.length yc.c3, .slice yc.a4 g.pr.length yc.c4] 29) := ⟨BgG.out.drew⟩
  have BO : Aside0 (Blk v6.drew gO #[.slice ho.a1 go.ct.length ho.c1, .slice ho.a2 go.an.length ho.c2, .int .i64 go.hang.a, .int .i64 go.hang.b, .int .i64 go.hang.c, .int .i64 go.adv, .slice ho.a3 go.dl.length ho.c3, .slice ho.a4 go.pr.length ho.c4] 29) := ⟨BgO.out.drew⟩
  have BP : Aside0 (Blk v6.drew gP #[.slice yc.a1 g.ct.length yc.c1, .slice yc.a2 g.an.length yc.c2, .int .i64 g.hang.a, .int .i64 g.hang.b, .int .i64 g.hang.c, .int .i64 g.adv, .slice yc.a3 g.dl.length yc.c3, .slice (some ⟨gq, 0, none⟩) 1 1] 29) := ⟨BgP.out.drew⟩
  generalize hwd : v6.drew = w1' at *
  clear hwd
  refine inv_at [0, 1, 2, 3, 4, 5, 6, 7, 8, 9, 10, 11, 12, 13, 14, 15, 16, 17, 18, 19, 20, 21, 22, 23, 24, 25, 26, 27, 28, 29, 30, 31, 32, 33, 34, 35] (fun a0_ b a w' => a = putSel a0_ b [(0, 35, .bool true), (1, 36, .bool true), (2, 37, .agg #[.slice y1_.a1 x1_.ct.length y1_.c1, .slice y1_.a2 x1_.an.length y1_.c2, .int .i64 x1_.hang.a, .int .i64 x1_.hang.b, .int .i64 x1_.hang.c, .int .i64 x1_.adv, .slice y1_.a3 x1_.dl.length y1_.c3, .slice y1_.a4 x1_.pr.length y1_.c4]), (3, 38, .agg #[.slice y2_.a1 x2_.ct.length y2_.c1, .slice y2_.a2 x2_.an.length y2_.c2, .int .i64 x2_.hang.a, .int .i64 x2_.hang.b, .int .i64 x2_.hang.c, .int .i64 x2_.adv, .slice y2_.a3 x2_.dl.length y2_.c3, .slice y2_.a4 x2_.pr.length y2_.c4]), (4, 39, .bool (sameB x1_ x2_)), (5, 40, .agg #[.slice y1_.a1 x1_.ct.length y1_.c1, .slice y1_.a2 x1_.an.length y1_.c2, .int .i64 x1_.hang.a, .int .i64 x1_.hang.b, .int .i64 x1_.hang.c, .int .i64 x1_.adv, .slice y1_.a3 x1_.dl.length y1_.c3, .slice y1_.a4 x1_.pr.length y1_.c4]), (6, 41, .agg #[.slice y2_.a1 x2_.ct.length y2_.c1, .slice y2_.a2 x2_.an.length y2_.c2, .int .i64 x2_.hang.a, .int .i64 x2_.hang.b, .int .i64 x2_.hang.c, .int .i64 x2_.adv, .slice y2_.a3 x2_.dl.length y2_.c3, .slice y2_.a4 x2_.pr.length y2_.c4]), (7, 42, .bool (sameB x1_ x2_)), (8, 43, .bool true), (9, 44, .bool true), (10, 45, .bool true), (11, 46, .agg #[.slice y1_.a1 x1_.ct.length y1_.c1, .slice y1_.a2 x1_.an.length y1_.c2, .int .i64 x1_.hang.a, .int .i64 x1_.hang.b, .int .i64 x1_.hang.c, .int .i64 x1_.adv, .slice y1_.a3 x1_.dl.length y1_.c3, .slice y1_.a4 x1_.pr.length y1_.c4]), (12, 47, .agg #[.slice y1_.a1 x1_.ct.length y1_.c1, .slice y1_.a2 x1_.an.length y1_.c2, .int .i64 x1_.hang.a, .int .i64 x1_.hang.b, .int .i64 x1_.hang.c, .int .i64 x1_.adv, .slice y1_.a3 x1_.dl.length y1_.c3, .slice y1_.a4 x1_.pr.length y1_.c4]), (13, 48, .bool true), (14, 49, .bool true), (15, 50, .bool true), (16, 51, .agg #[.slice yc.a1 g.ct.length yc.c1, .slice yc.a2 g.an.length yc.c2, .int .i64 g.hang.a, .int .i64 g.hang.b, .int .i64 g.hang.c, .int .i64 g.adv, .slice yc.a3 g.dl.length yc.c3, .slice yc.a4 g.pr.length yc.c4]), (17, 52, .agg #[.slice ho.a1 go.ct.length ho.c1, .slice ho.a2 go.an.length ho.c2, .int .i64 go.hang.a, .int .i64 go.hang.b, .int .i64 go.hang.c, .int .i64 go.adv, .slice ho.a3 go.dl.length ho.c3, .slice ho.a4 go.pr.length ho.c4]), (18, 53, .bool (sameB g go)), (19, 54, .agg #[.slice yc.a1 g.ct.length yc.c1, .slice yc.a2 g.an.length yc.c2, .int .i64 g.hang.a, .int .i64 g.hang.b, .int .i64 g.hang.c, .int .i64 g.adv, .slice yc.a3 g.dl.length yc.c3, .slice yc.a4 g.pr.length yc.c4]), (20, 55, .agg #[.slice ho.a1 go.ct.length ho.c1, .slice ho.a2 go.an.length ho.c2, .int .i64 go.hang.a, .int .i64 go.hang.b, .int .i64 go.hang.c, .int .i64 go.adv, .slice ho.a3 go.dl.length ho.c3, .slice ho.a4 go.pr.length ho.c4]), (21, 56, .bool (sameB g go)), (22, 57, .bool true), (23, 58, .bool true), (24, 59, .bool true), (25, 60, .agg #[.slice yc.a1 g.ct.length yc.c1, .slice yc.a2 g.an.length yc.c2, .int .i64 g.hang.a, .int .i64 g.hang.b, .int .i64 g.hang.c, .int .i64 g.adv, .slice yc.a3 g.dl.length yc.c3, .slice yc.a4 g.pr.length yc.c4]), (26, 61, .agg #[.slice yc.a1 g.ct.length yc.c1, .slice yc.a2 g.an.length yc.c2, .int .i64 g.hang.a, .int .i64 g.hang.b, .int .i64 g.hang.c, .int .i64 g.adv, .slice yc.a3 g.dl.length yc.c3, .slice (some ⟨gq, 0, none⟩) 1 1]), (27, 62, .bool false), (28, 63, .bool true), (29, 64, .bool true), (30, 65, .bool true), (31, 66, .agg #[.slice yc.a1 g.ct.length yc.c1, .slice yc.a2 g.an.length yc.c2, .int .i64 g.hang.a, .int .i64 g.hang.b, .int .i64 g.hang.c, .int .i64 g.adv, .slice yc.a3 g.dl.length yc.c3, .slice (some ⟨gq, 0, none⟩) 1 1]), (32, 67, .agg #[.slice yc.a1 g.ct.length yc.c1, .slice yc.a2 g.an.length yc.c2, .int .i64 g.hang.a, .int .i64 g.hang.b, .int .i64 g.hang.c, .int .i64 g.adv, .slice yc.a3 g.dl.length yc.c3, .slice (some ⟨gq, 0, none⟩) 1 1]), (33, 68, .bool true), (34, 69, .bool true), (35, 6, .bool true)] ∧ (Below v6.heap.size v6 w') ∧ (Blk w' gA #[.slice y1_.a1 x1_.ct.length y1_.c1, .slice y1_.a2 x1_.an.length y1_.c2, .int .i64 x1_.hang.a, .int .i64 x1_.hang.b, .int .i64 x1_.hang.c, .int .i64 x1_.adv, .slice y1_.a3 x1_.dl.length y1_.c3, .slice y1_.a4 x1_.pr.length y1_.c4] 29) ∧ (Blk w' gB #[.slice y2_.a1 x2_.ct.length y2_.c1, .slice y2_.a2 x2_.an.length y2_.c2, .int .i64 x2_.hang.a, .int .i64 x2_.hang.b, .int .i64 x2_.hang.c, .int .i64 x2_.adv, .slice y2_.a3 x2_.dl.length y2_.c3, .slice y2_.a4 x2_.pr.length y2_.c4] 29) ∧ (Blk w' gG #[.slice yc.a1 g.ct.length yc.c1, .slice yc.a2 g.an.length yc.c2, .int .i64 g.hang.a, .int .i64 g.hang.b, .int .i64 g.hang.c, .int .i64 g.adv, .slice yc.a3 g.dl.length yc.c3, .slice yc.a4 g.pr.length yc.c4] 29) ∧ (Blk w' gO #[.slice ho.a1 go.ct.length ho.c1, .slice ho.a2 go.an.length ho.c2, .int .i64 go.hang.a, .int .i64 go.hang.b, .int .i64 go.hang.c, .int .i64 go.adv, .slice ho.a3 go.dl.length ho.c3, .slice ho.a4 go.pr.length ho.c4] 29) ∧ (Blk w' gP #[.slice yc.a1 g.ct.length yc.c1, .slice yc.a2 g.an.length yc.c2, .int .i64 g.hang.a, .int .i64 g.hang.b, .int .i64 g.hang.c, .int .i64 g.adv, .slice yc.a3 g.dl.length yc.c3, .slice (some ⟨gq, 0, none⟩) 1 1] 29)) HT_.out HW_.out (by kernel_rfl) (by kernel_rfl) ?_ ?_ ?_
  ·exact ⟨by simp only [putSel, Bool.false_eq_true, if_false], HB.out, BA.out, BB.out, BG.out, BO.out, BP.out⟩
  ·skip
   clear BA BB BG BO BP HB
   refine steps_cons ?_ ?_
   ·rintro b a w' ⟨ha, QHB, QBA, QBB, QBG, QBO, QBP⟩ hb_ hon hoff
    refine ⟨_, rfl, fun K hK => ?_⟩
    have e7 : a.tmps[7]? = some (.bool true) := by rw [ha]; exact (putSel_off rfl).trans rfl
    replace ha := aM_ ha
    have HB := aM_ QHB
    have BA := aM_ QBA
    have BB := aM_ QBB
    have BG := aM_ QBG
    have BO := aM_ QBO
    have BP := aM_ QBP
    refine value_ (w1 := w') (v := .bool true) (by rfl) rfl ?_ ?_
    ·go_simp
     (try simp only [i64_w])
     try rfl
     try assumption
    refine hK.out _ _ ⟨(by rw [ha.out]; exact putSel_upk 0 hb_ rfl rfl rfl), QHB, QBA, QBB, QBG, QBO, QBP⟩
   refine steps_cons ?_ ?_
   ·rintro b a w' ⟨ha, QHB, QBA, QBB, QBG, QBO, QBP⟩ hb_ hon hoff
    refine ⟨_, rfl, fun K hK => ?_⟩
    have e35 : a.tmps[35]? = some (.bool true) := by rw [ha]; exact putSel_on (e := (0, 35, _)) 0 rfl rfl (hon 0 rfl) rfl
    replace ha := aM_ ha
    have HB := aM_ QHB
    have BA := aM_ QBA
    have BB := aM_ QBB
    have BG := aM_ QBG
    have BO := aM_ QBO
    have BP := aM_ QBP
    refine value_ (w1 := w') (v := .bool true) (by rfl) rfl ?_ ?_
    ·go_simp
     (try simp only [i64_w])
     try rfl
     try assumption
    refine hK.out _ _ ⟨(by rw [ha.out]; exact putSel_upk 1 hb_ rfl rfl rfl), QHB, QBA, QBB, QBG, QBO, QBP⟩
   refine steps_cons ?_ ?_
   ·rintro b a w' ⟨ha, QHB, QBA, QBB, QBG, QBO, QBP⟩ hb_ hon hoff
    refine ⟨_, rfl, fun K hK => ?_⟩
    have e3 : a.tmps[3]? = some (.pointer (some ⟨gA, 0, none⟩)) := by rw [ha]; exact (putSel_off rfl).trans rfl
    have e36 : a.tmps[36]? = some (.bool true) := by rw [ha]; exact putSel_on (e := (1, 36, _)) 1 rfl rfl (hon 1 rfl) rfl
    replace ha := aM_ ha
    have HB := aM_ QHB
    have BA := aM_ QBA
    have BB := aM_ QBB
    have BG := aM_ QBG
    have BO := aM_ QBO
    have BP := aM_ QBP
    have z0 := BA.out.cell 0
    have z1 := BA.out.cell 1
    have z2 := BA.out.cell 2
    have z3 := BA.out.cell 3
    have z4 := BA.out.cell 4
    have z5 := BA.out.cell 5
    have z6 := BA.out.cell 6
    have z7 := BA.out.cell 7
    refine value_ (w1 := w') (v := .agg #[.slice y1_.a1 x1_.ct.length y1_.c1, .slice y1_.a2 x1_.an.length y1_.c2, .int .i64 x1_.hang.a, .int .i64 x1_.hang.b, .int .i64 x1_.hang.c, .int .i64 x1_.adv, .slice y1_.a3 x1_.dl.length y1_.c3, .slice y1_.a4 x1_.pr.length y1_.c4]) (wanted_on rfl rfl rfl (e36.trans (by first | rfl | (simp [*]; done)))) rfl ?_ ?_
    ·go_simp
     (try simp only [i64_w])
     try rfl
     try assumption
    refine hK.out _ _ ⟨(by rw [ha.out]; exact putSel_upk 2 hb_ rfl rfl rfl), QHB, QBA, QBB, QBG, QBO, QBP⟩
   refine steps_cons ?_ ?_
   ·rintro b a w' ⟨ha, QHB, QBA, QBB, QBG, QBO, QBP⟩ hb_ hon hoff
    refine ⟨_, rfl, fun K hK => ?_⟩
    have e4 : a.tmps[4]? = some (.pointer (some ⟨gB, 0, none⟩)) := by rw [ha]; exact (putSel_off rfl).trans rfl
    have e36 : a.tmps[36]? = some (.bool true) := by rw [ha]; exact putSel_on (e := (1, 36, _)) 1 rfl rfl (hon 1 rfl) rfl
    replace ha := aM_ ha
    have HB := aM_ QHB
    have BA := aM_ QBA
    have BB := aM_ QBB
    have BG := aM_ QBG
    have BO := aM_ QBO
    have BP := aM_ QBP
    have z0 := BB.out.cell 0
    have z1 := BB.out.cell 1
    have z2 := BB.out.cell 2
    have z3 := BB.out.cell 3
    have z4 := BB.out.cell 4
    have z5 := BB.out.cell 5
    have z6 := BB.out.cell 6
    have z7 := BB.out.cell 7
    refine value_ (w1 := w') (v := .agg #[.slice y2_.a1 x2_.ct.length y2_.c1, .slice y2_.a2 x2_.an.length y2_.c2, .int .i64 x2_.hang.a, .int .i64 x2_.hang.b, .int .i64 x2_.hang.c, .int .i64 x2_.adv, .slice y2_.a3 x2_.dl.length y2_.c3, .slice y2_.a4 x2_.pr.length y2_.c4]) (wanted_on rfl rfl rfl (e36.trans (by first | rfl | (simp [*]; done)))) rfl ?_ ?_
    ·go_simp
     (try simp only [i64_w])
     try rfl
     try assumption
    refine hK.out _ _ ⟨(by rw [ha.out]; exact putSel_upk 3 hb_ rfl rfl rfl), QHB, QBA, QBB, QBG, QBO, QBP⟩
   refine steps_cons ?_ ?_
   ·rintro b a w' ⟨ha, QHB, QBA, QBB, QBG, QBO, QBP⟩ hb_ hon hoff
    refine ⟨_, rfl, fun K hK => ?_⟩
    have e37 : a.tmps[37]? = some (.agg #[.slice y1_.a1 x1_.ct.length y1_.c1, .slice y1_.a2 x1_.an.length y1_.c2, .int .i64 x1_.hang.a, .int .i64 x1_.hang.b, .int .i64 x1_.hang.c, .int .i64 x1_.adv, .slice y1_.a3 x1_.dl.length y1_.c3, .slice y1_.a4 x1_.pr.length y1_.c4]) := by rw [ha]; exact putSel_on (e := (2, 37, _)) 2 rfl rfl (hon 2 rfl) rfl
    have e38 : a.tmps[38]? = some (.agg #[.slice y2_.a1 x2_.ct.length y2_.c1, .slice y2_.a2 x2_.an.length y2_.c2, .int .i64 x2_.hang.a, .int .i64 x2_.hang.b, .int .i64 x2_.hang.c, .int .i64 x2_.adv, .slice y2_.a3 x2_.dl.length y2_.c3, .slice y2_.a4 x2_.pr.length y2_.c4]) := by rw [ha]; exact putSel_on (e := (3, 38, _)) 3 rfl rfl (hon 3 rfl) rfl
    have e36 : a.tmps[36]? = some (.bool true) := by rw [ha]; exact putSel_on (e := (1, 36, _)) 1 rfl rfl (hon 1 rfl) rfl
    replace ha := aM_ ha
    have HB := aM_ QHB
    have BA := aM_ QBA
    have BB := aM_ QBB
    have BG := aM_ QBG
    have BO := aM_ QBO
    have BP := aM_ QBP
    refine call_ 11 #[.agg #[.slice y1_.a1 x1_.ct.length y1_.c1, .slice y1_.a2 x1_.an.length y1_.c2, .int .i64 x1_.hang.a, .int .i64 x1_.hang.b, .int .i64 x1_.hang.c, .int .i64 x1_.adv, .slice y1_.a3 x1_.dl.length y1_.c3, .slice y1_.a4 x1_.pr.length y1_.c4], .agg #[.slice y2_.a1 x2_.ct.length y2_.c1, .slice y2_.a2 x2_.an.length y2_.c2, .int .i64 x2_.hang.a, .int .i64 x2_.hang.b, .int .i64 x2_.hang.c, .int .i64 x2_.adv, .slice y2_.a3 x2_.dl.length y2_.c3, .slice y2_.a4 x2_.pr.length y2_.c4]] (wanted_on rfl rfl rfl (e36.trans rfl)) rfl ?_ ?_
    ·go_simp
    refine (same_any x1_ x2_ y1_ y2_ w' (HA6.out.below HB.out) (HB6.out.below HB.out)).mono ?_
    rintro e w2' ⟨rfl, hb⟩
    refine ⟨_, rfl, ?_⟩
    refine hK.out _ _ ⟨(by rw [ha.out]; exact putSel_upk 4 hb_ rfl rfl rfl), bthen' HB.out hb, BA.out.below hb, BB.out.below hb, BG.out.below hb, BO.out.below hb, BP.out.below hb⟩
   refine steps_cons ?_ ?_
   ·rintro b a w' ⟨ha, QHB, QBA, QBB, QBG, QBO, QBP⟩ hb_ hon hoff
    refine ⟨_, rfl, fun K hK => ?_⟩
    have e3 : a.tmps[3]? = some (.pointer (some ⟨gA, 0, none⟩)) := by rw [ha]; exact (putSel_off rfl).trans rfl
    have e36 : a.tmps[36]? = some (.bool true) := by rw [ha]; exact putSel_on (e := (1, 36, _)) 1 rfl rfl (hon 1 rfl) rfl
    replace ha := aM_ ha
    have HB := aM_ QHB
    have BA := aM_ QBA
    have BB := aM_ QBB
    have BG := aM_ QBG
    have BO := aM_ QBO
    have BP := aM_ QBP
    have z0 := BA.out.cell 0
    have z1 := BA.out.cell 1
    have z2 := BA.out.cell 2
    have z3 := BA.out.cell 3
    have z4 := BA.out.cell 4
    have z5 := BA.out.cell 5
    have z6 := BA.out.cell 6
    have z7 := BA.out.cell 7
    refine value_ (w1 := w') (v := .agg #[.slice y1_.a1 x1_.ct.length y1_.c1, .slice y1_.a2 x1_.an.length y1_.c2, .int .i64 x1_.hang.a, .int .i64 x1_.hang.b, .int .i64 x1_.hang.c, .int .i64 x1_.adv, .slice y1_.a3 x1_.dl.length y1_.c3, .slice y1_.a4 x1_.pr.length y1_.c4]) (wanted_on rfl rfl rfl (e36.trans (by first | rfl | (simp [*]; done)))) rfl ?_ ?_
    ·go_simp
     (try simp only [i64_w])
     try rfl
     try assumption
    refine hK.out _ _ ⟨(by rw [ha.out]; exact putSel_upk 5 hb_ rfl rfl rfl), QHB, QBA, QBB, QBG, QBO, QBP⟩
   refine steps_cons ?_ ?_
   ·rintro b a w' ⟨ha, QHB, QBA, QBB, QBG, QBO, QBP⟩ hb_ hon hoff
    refine ⟨_, rfl, fun K hK => ?_⟩
    have e4 : a.tmps[4]? = some (.pointer (some ⟨gB, 0, none⟩)) := by rw [ha]; exact (putSel_off rfl).trans rfl
    have e36 : a.tmps[36]? = some (.bool true) := by rw [ha]; exact putSel_on (e := (1, 36, _)) 1 rfl rfl (hon 1 rfl) rfl
    replace ha := aM_ ha
    have HB := aM_ QHB
    have BA := aM_ QBA
    have BB := aM_ QBB
    have BG := aM_ QBG
    have BO := aM_ QBO
    have BP := aM_ QBP
    have z0 := BB.out.cell 0
    have z1 := BB.out.cell 1
    have z2 := BB.out.cell 2
    have z3 := BB.out.cell 3
    have z4 := BB.out.cell 4
    have z5 := BB.out.cell 5
    have z6 := BB.out.cell 6
    have z7 := BB.out.cell 7
    refine value_ (w1 := w') (v := .agg #[.slice y2_.a1 x2_.ct.length y2_.c1, .slice y2_.a2 x2_.an.length y2_.c2, .int .i64 x2_.hang.a, .int .i64 x2_.hang.b, .int .i64 x2_.hang.c, .int .i64 x2_.adv, .slice y2_.a3 x2_.dl.length y2_.c3, .slice y2_.a4 x2_.pr.length y2_.c4]) (wanted_on rfl rfl rfl (e36.trans (by first | rfl | (simp [*]; done)))) rfl ?_ ?_
    ·go_simp
     (try simp only [i64_w])
     try rfl
     try assumption
    refine hK.out _ _ ⟨(by rw [ha.out]; exact putSel_upk 6 hb_ rfl rfl rfl), QHB, QBA, QBB, QBG, QBO, QBP⟩
   refine steps_cons ?_ ?_
   ·rintro b a w' ⟨ha, QHB, QBA, QBB, QBG, QBO, QBP⟩ hb_ hon hoff
    refine ⟨_, rfl, fun K hK => ?_⟩
    have e40 : a.tmps[40]? = some (.agg #[.slice y1_.a1 x1_.ct.length y1_.c1, .slice y1_.a2 x1_.an.length y1_.c2, .int .i64 x1_.hang.a, .int .i64 x1_.hang.b, .int .i64 x1_.hang.c, .int .i64 x1_.adv, .slice y1_.a3 x1_.dl.length y1_.c3, .slice y1_.a4 x1_.pr.length y1_.c4]) := by rw [ha]; exact putSel_on (e := (5, 40, _)) 5 rfl rfl (hon 5 rfl) rfl
    have e41 : a.tmps[41]? = some (.agg #[.slice y2_.a1 x2_.ct.length y2_.c1, .slice y2_.a2 x2_.an.length y2_.c2, .int .i64 x2_.hang.a, .int .i64 x2_.hang.b, .int .i64 x2_.hang.c, .int .i64 x2_.adv, .slice y2_.a3 x2_.dl.length y2_.c3, .slice y2_.a4 x2_.pr.length y2_.c4]) := by rw [ha]; exact putSel_on (e := (6, 41, _)) 6 rfl rfl (hon 6 rfl) rfl
    have e36 : a.tmps[36]? = some (.bool true) := by rw [ha]; exact putSel_on (e := (1, 36, _)) 1 rfl rfl (hon 1 rfl) rfl
    replace ha := aM_ ha
    have HB := aM_ QHB
    have BA := aM_ QBA
    have BB := aM_ QBB
    have BG := aM_ QBG
    have BO := aM_ QBO
    have BP := aM_ QBP
    refine call_ 12 #[.agg #[.slice y1_.a1 x1_.ct.length y1_.c1, .slice y1_.a2 x1_.an.length y1_.c2, .int .i64 x1_.hang.a, .int .i64 x1_.hang.b, .int .i64 x1_.hang.c, .int .i64 x1_.adv, .slice y1_.a3 x1_.dl.length y1_.c3, .slice y1_.a4 x1_.pr.length y1_.c4], .agg #[.slice y2_.a1 x2_.ct.length y2_.c1, .slice y2_.a2 x2_.an.length y2_.c2, .int .i64 x2_.hang.a, .int .i64 x2_.hang.b, .int .i64 x2_.hang.c, .int .i64 x2_.adv, .slice y2_.a3 x2_.dl.length y2_.c3, .slice y2_.a4 x2_.pr.length y2_.c4]] (wanted_on rfl rfl rfl (e36.trans rfl)) rfl ?_ ?_
    ·go_simp
    refine (rfSame_any x1_ x2_ y1_ y2_ w' (HA6.out.below HB.out) (HB6.out.below HB.out)).mono ?_
    rintro e w2' ⟨rfl, hb⟩
    refine ⟨_, rfl, ?_⟩
    refine hK.out _ _ ⟨(by rw [ha.out]; exact putSel_upk 7 hb_ rfl rfl rfl), bthen' HB.out hb, BA.out.below hb, BB.out.below hb, BG.out.below hb, BO.out.below hb, BP.out.below hb⟩
   refine steps_cons ?_ ?_
   ·rintro b a w' ⟨ha, QHB, QBA, QBB, QBG, QBO, QBP⟩ hb_ hon hoff
    refine ⟨_, rfl, fun K hK => ?_⟩
    have e39 : a.tmps[39]? = some (.bool (sameB x1_ x2_)) := by rw [ha]; exact putSel_on (e := (4, 39, _)) 4 rfl rfl (hon 4 rfl) rfl
    have e42 : a.tmps[42]? = some (.bool (sameB x1_ x2_)) := by rw [ha]; exact putSel_on (e := (7, 42, _)) 7 rfl rfl (hon 7 rfl) rfl
    have e36 : a.tmps[36]? = some (.bool true) := by rw [ha]; exact putSel_on (e := (1, 36, _)) 1 rfl rfl (hon 1 rfl) rfl
    replace ha := aM_ ha
    have HB := aM_ QHB
    have BA := aM_ QBA
    have BB := aM_ QBB
    have BG := aM_ QBG
    have BO := aM_ QBO
    have BP := aM_ QBP
    refine value_ (w1 := w') (v := .bool true) (wanted_on rfl rfl rfl (e36.trans (by first | rfl | (simp [*]; done)))) rfl ?_ ?_
    ·go_simp
     (try simp only [i64_w])
     try rfl
     try assumption
    refine hK.out _ _ ⟨(by rw [ha.out]; exact putSel_upk 8 hb_ rfl rfl rfl), QHB, QBA, QBB, QBG, QBO, QBP⟩
   refine steps_cons ?_ ?_
   ·rintro b a w' ⟨ha, QHB, QBA, QBB, QBG, QBO, QBP⟩ hb_ hon hoff
    refine ⟨_, rfl, fun K hK => ?_⟩
    have e36 : a.tmps[36]? = some (.bool true) := by rw [ha]; exact putSel_on (e := (1, 36, _)) 1 rfl rfl (hon 1 rfl) rfl
    have e43 : a.tmps[43]? = some (.bool true) := by rw [ha]; exact putSel_on (e := (8, 43, _)) 8 rfl rfl (hon 8 rfl) rfl
    replace ha := aM_ ha
    have HB := aM_ QHB
    have BA := aM_ QBA
    have BB := aM_ QBB
    have BG := aM_ QBG
    have BO := aM_ QBO
    have BP := aM_ QBP
    refine value_ (w1 := w') (v := .bool true) (by rfl) rfl ?_ ?_
    ·go_simp
     (try simp only [i64_w])
     try rfl
     try assumption
    refine hK.out _ _ ⟨(by rw [ha.out]; exact putSel_upk 9 hb_ rfl rfl rfl), QHB, QBA, QBB, QBG, QBO, QBP⟩
   refine steps_cons ?_ ?_
   ·rintro b a w' ⟨ha, QHB, QBA, QBB, QBG, QBO, QBP⟩ hb_ hon hoff
    refine ⟨_, rfl, fun K hK => ?_⟩
    have e44 : a.tmps[44]? = some (.bool true) := by rw [ha]; exact putSel_on (e := (9, 44, _)) 9 rfl rfl (hon 9 rfl) rfl
    replace ha := aM_ ha
    have HB := aM_ QHB
    have BA := aM_ QBA
    have BB := aM_ QBB
    have BG := aM_ QBG
    have BO := aM_ QBO
    have BP := aM_ QBP
    refine value_ (w1 := w') (v := .bool true) (by rfl) rfl ?_ ?_
    ·go_simp
     (try simp only [i64_w])
     try rfl
     try assumption
    refine hK.out _ _ ⟨(by rw [ha.out]; exact putSel_upk 10 hb_ rfl rfl rfl), QHB, QBA, QBB, QBG, QBO, QBP⟩
   refine steps_cons ?_ ?_
   ·rintro b a w' ⟨ha, QHB, QBA, QBB, QBG, QBO, QBP⟩ hb_ hon hoff
    refine ⟨_, rfl, fun K hK => ?_⟩
    have e3 : a.tmps[3]? = some (.pointer (some ⟨gA, 0, none⟩)) := by rw [ha]; exact (putSel_off rfl).trans rfl
    have e45 : a.tmps[45]? = some (.bool true) := by rw [ha]; exact putSel_on (e := (10, 45, _)) 10 rfl rfl (hon 10 rfl) rfl
    replace ha := aM_ ha
    have HB := aM_ QHB
    have BA := aM_ QBA
    have BB := aM_ QBB
    have BG := aM_ QBG
    have BO := aM_ QBO
    have BP := aM_ QBP
    have z0 := BA.out.cell 0
    have z1 := BA.out.cell 1
    have z2 := BA.out.cell 2
    have z3 := BA.out.cell 3
    have z4 := BA.out.cell 4
    have z5 := BA.out.cell 5
    have z6 := BA.out.cell 6
    have z7 := BA.out.cell 7
    refine value_ (w1 := w') (v := .agg #[.slice y1_.a1 x1_.ct.length y1_.c1, .slice y1_.a2 x1_.an.length y1_.c2, .int .i64 x1_.hang.a, .int .i64 x1_.hang.b, .int .i64 x1_.hang.c, .int .i64 x1_.adv, .slice y1_.a3 x1_.dl.length y1_.c3, .slice y1_.a4 x1_.pr.length y1_.c4]) (wanted_on rfl rfl rfl (e45.trans (by first | rfl | (simp [*]; done)))) rfl ?_ ?_
    ·go_simp
     (try simp only [i64_w])
     try rfl
     try assumption
    refine hK.out _ _ ⟨(by rw [ha.out]; exact putSel_upk 11 hb_ rfl rfl rfl), QHB, QBA, QBB, QBG, QBO, QBP⟩
   refine steps_cons ?_ ?_
   ·rintro b a w' ⟨ha, QHB, QBA, QBB, QBG, QBO, QBP⟩ hb_ hon hoff
    refine ⟨_, rfl, fun K hK => ?_⟩
    have e3 : a.tmps[3]? = some (.pointer (some ⟨gA, 0, none⟩)) := by rw [ha]; exact (putSel_off rfl).trans rfl
    have e45 : a.tmps[45]? = some (.bool true) := by rw [ha]; exact putSel_on (e := (10, 45, _)) 10 rfl rfl (hon 10 rfl) rfl
    replace ha := aM_ ha
    have HB := aM_ QHB
    have BA := aM_ QBA
    have BB := aM_ QBB
    have BG := aM_ QBG
    have BO := aM_ QBO
    have BP := aM_ QBP
    have z0 := BA.out.cell 0
    have z1 := BA.out.cell 1
    have z2 := BA.out.cell 2
    have z3 := BA.out.cell 3
    have z4 := BA.out.cell 4
    have z5 := BA.out.cell 5
    have z6 := BA.out.cell 6
    have z7 := BA.out.cell 7
    refine value_ (w1 := w') (v := .agg #[.slice y1_.a1 x1_.ct.length y1_.c1, .slice y1_.a2 x1_.an.length y1_.c2, .int .i64 x1_.hang.a, .int .i64 x1_.hang.b, .int .i64 x1_.hang.c, .int .i64 x1_.adv, .slice y1_.a3 x1_.dl.length y1_.c3, .slice y1_.a4 x1_.pr.length y1_.c4]) (wanted_on rfl rfl rfl (e45.trans (by first | rfl | (simp [*]; done)))) rfl ?_ ?_
    ·go_simp
     (try simp only [i64_w])
     try rfl
     try assumption
    refine hK.out _ _ ⟨(by rw [ha.out]; exact putSel_upk 12 hb_ rfl rfl rfl), QHB, QBA, QBB, QBG, QBO, QBP⟩
   refine steps_cons ?_ ?_
   ·rintro b a w' ⟨ha, QHB, QBA, QBB, QBG, QBO, QBP⟩ hb_ hon hoff
    refine ⟨_, rfl, fun K hK => ?_⟩
    have e46 : a.tmps[46]? = some (.agg #[.slice y1_.a1 x1_.ct.length y1_.c1, .slice y1_.a2 x1_.an.length y1_.c2, .int .i64 x1_.hang.a, .int .i64 x1_.hang.b, .int .i64 x1_.hang.c, .int .i64 x1_.adv, .slice y1_.a3 x1_.dl.length y1_.c3, .slice y1_.a4 x1_.pr.length y1_.c4]) := by rw [ha]; exact putSel_on (e := (11, 46, _)) 11 rfl rfl (hon 11 rfl) rfl
    have e47 : a.tmps[47]? = some (.agg #[.slice y1_.a1 x1_.ct.length y1_.c1, .slice y1_.a2 x1_.an.length y1_.c2, .int .i64 x1_.hang.a, .int .i64 x1_.hang.b, .int .i64 x1_.hang.c, .int .i64 x1_.adv, .slice y1_.a3 x1_.dl.length y1_.c3, .slice y1_.a4 x1_.pr.length y1_.c4]) := by rw [ha]; exact putSel_on (e := (12, 47, _)) 12 rfl rfl (hon 12 rfl) rfl
    have e45 : a.tmps[45]? = some (.bool true) := by rw [ha]; exact putSel_on (e := (10, 45, _)) 10 rfl rfl (hon 10 rfl) rfl
    replace ha := aM_ ha
    have HB := aM_ QHB
    have BA := aM_ QBA
    have BB := aM_ QBB
    have BG := aM_ QBG
    have BO := aM_ QBO
    have BP := aM_ QBP
    refine call_ 11 #[.agg #[.slice y1_.a1 x1_.ct.length y1_.c1, .slice y1_.a2 x1_.an.length y1_.c2, .int .i64 x1_.hang.a, .int .i64 x1_.hang.b, .int .i64 x1_.hang.c, .int .i64 x1_.adv, .slice y1_.a3 x1_.dl.length y1_.c3, .slice y1_.a4 x1_.pr.length y1_.c4], .agg #[.slice y1_.a1 x1_.ct.length y1_.c1, .slice y1_.a2 x1_.an.length y1_.c2, .int .i64 x1_.hang.a, .int .i64 x1_.hang.b, .int .i64 x1_.hang.c, .int .i64 x1_.adv, .slice y1_.a3 x1_.dl.length y1_.c3, .slice y1_.a4 x1_.pr.length y1_.c4]] (wanted_on rfl rfl rfl (e45.trans rfl)) rfl ?_ ?_
    ·go_simp
    refine (same_any x1_ x1_ y1_ y1_ w' (HA6.out.below HB.out) (HA6.out.below HB.out)).mono ?_
    rintro e w2' ⟨rfl, hb⟩
    rw [HS1.out]
    refine ⟨_, rfl, ?_⟩
    refine hK.out _ _ ⟨(by rw [ha.out]; exact putSel_upk 13 hb_ rfl rfl rfl), bthen' HB.out hb, BA.out.below hb, BB.out.below hb, BG.out.below hb, BO.out.below hb, BP.out.below hb⟩
   refine steps_cons ?_ ?_
   ·rintro b a w' ⟨ha, QHB, QBA, QBB, QBG, QBO, QBP⟩ hb_ hon hoff
    refine ⟨_, rfl, fun K hK => ?_⟩
    have e45 : a.tmps[45]? = some (.bool true) := by rw [ha]; exact putSel_on (e := (10, 45, _)) 10 rfl rfl (hon 10 rfl) rfl
    have e48 : a.tmps[48]? = some (.bool true) := by rw [ha]; exact putSel_on (e := (13, 48, _)) 13 rfl rfl (hon 13 rfl) rfl
    replace ha := aM_ ha
    have HB := aM_ QHB
    have BA := aM_ QBA
    have BB := aM_ QBB
    have BG := aM_ QBG
    have BO := aM_ QBO
    have BP := aM_ QBP
    refine value_ (w1 := w') (v := .bool true) (by rfl) rfl ?_ ?_
    ·go_simp
     (try simp only [i64_w])
     try rfl
     try assumption
    refine hK.out _ _ ⟨(by rw [ha.out]; exact putSel_upk 14 hb_ rfl rfl rfl), QHB, QBA, QBB, QBG, QBO, QBP⟩
   refine steps_cons ?_ ?_
   ·rintro b a w' ⟨ha, QHB, QBA, QBB, QBG, QBO, QBP⟩ hb_ hon hoff
    refine ⟨_, rfl, fun K hK => ?_⟩
    have e49 : a.tmps[49]? = some (.bool true) := by rw [ha]; exact putSel_on (e := (14, 49, _)) 14 rfl rfl (hon 14 rfl) rfl
    replace ha := aM_ ha
    have HB := aM_ QHB
    have BA := aM_ QBA
    have BB := aM_ QBB
    have BG := aM_ QBG
    have BO := aM_ QBO
    have BP := aM_ QBP
    refine value_ (w1 := w') (v := .bool true) (by rfl) rfl ?_ ?_
    ·go_simp
     (try simp only [i64_w])
     try rfl
     try assumption
    refine hK.out _ _ ⟨(by rw [ha.out]; exact putSel_upk 15 hb_ rfl rfl rfl), QHB, QBA, QBB, QBG, QBO, QBP⟩
   refine steps_cons ?_ ?_
   ·rintro b a w' ⟨ha, QHB, QBA, QBB, QBG, QBO, QBP⟩ hb_ hon hoff
    refine ⟨_, rfl, fun K hK => ?_⟩
    have e8 : a.tmps[8]? = some (.pointer (some ⟨gG, 0, none⟩)) := by rw [ha]; exact (putSel_off rfl).trans rfl
    have e50 : a.tmps[50]? = some (.bool true) := by rw [ha]; exact putSel_on (e := (15, 50, _)) 15 rfl rfl (hon 15 rfl) rfl
    replace ha := aM_ ha
    have HB := aM_ QHB
    have BA := aM_ QBA
    have BB := aM_ QBB
    have BG := aM_ QBG
    have BO := aM_ QBO
    have BP := aM_ QBP
    have z0 := BG.out.cell 0
    have z1 := BG.out.cell 1
    have z2 := BG.out.cell 2
    have z3 := BG.out.cell 3
    have z4 := BG.out.cell 4
    have z5 := BG.out.cell 5
    have z6 := BG.out.cell 6
    have z7 := BG.out.cell 7
    refine value_ (w1 := w') (v := .agg #[.slice yc.a1 g.ct.length yc.c1, .slice yc.a2 g.an.length yc.c2, .int .i64 g.hang.a, .int .i64 g.hang.b, .int .i64 g.hang.c, .int .i64 g.adv, .slice yc.a3 g.dl.length yc.c3, .slice yc.a4 g.pr.length yc.c4]) (wanted_on rfl rfl rfl (e50.trans (by first | rfl | (simp [*]; done)))) rfl ?_ ?_
    ·go_simp
     (try simp only [i64_w])
     try rfl
     try assumption
    refine hK.out _ _ ⟨(by rw [ha.out]; exact putSel_upk 16 hb_ rfl rfl rfl), QHB, QBA, QBB, QBG, QBO, QBP⟩
   refine steps_cons ?_ ?_
   ·rintro b a w' ⟨ha, QHB, QBA, QBB, QBG, QBO, QBP⟩ hb_ hon hoff
    refine ⟨_, rfl, fun K hK => ?_⟩
    have e11 : a.tmps[11]? = some (.pointer (some ⟨gO, 0, none⟩)) := by rw [ha]; exact (putSel_off rfl).trans rfl
    have e50 : a.tmps[50]? = some (.bool true) := by rw [ha]; exact putSel_on (e := (15, 50, _)) 15 rfl rfl (hon 15 rfl) rfl
    replace ha := aM_ ha
    have HB := aM_ QHB
    have BA := aM_ QBA
    have BB := aM_ QBB
    have BG := aM_ QBG
    have BO := aM_ QBO
    have BP := aM_ QBP
    have z0 := BO.out.cell 0
    have z1 := BO.out.cell 1
    have z2 := BO.out.cell 2
    have z3 := BO.out.cell 3
    have z4 := BO.out.cell 4
    have z5 := BO.out.cell 5
    have z6 := BO.out.cell 6
    have z7 := BO.out.cell 7
    refine value_ (w1 := w') (v := .agg #[.slice ho.a1 go.ct.length ho.c1, .slice ho.a2 go.an.length ho.c2, .int .i64 go.hang.a, .int .i64 go.hang.b, .int .i64 go.hang.c, .int .i64 go.adv, .slice ho.a3 go.dl.length ho.c3, .slice ho.a4 go.pr.length ho.c4]) (wanted_on rfl rfl rfl (e50.trans (by first | rfl | (simp [*]; done)))) rfl ?_ ?_
    ·go_simp
     (try simp only [i64_w])
     try rfl
     try assumption
    refine hK.out _ _ ⟨(by rw [ha.out]; exact putSel_upk 17 hb_ rfl rfl rfl), QHB, QBA, QBB, QBG, QBO, QBP⟩
   refine steps_cons ?_ ?_
   ·rintro b a w' ⟨ha, QHB, QBA, QBB, QBG, QBO, QBP⟩ hb_ hon hoff
    refine ⟨_, rfl, fun K hK => ?_⟩
    have e51 : a.tmps[51]? = some (.agg #[.slice yc.a1 g.ct.length yc.c1, .slice yc.a2 g.an.length yc.c2, .int .i64 g.hang.a, .int .i64 g.hang.b, .int .i64 g.hang.c, .int .i64 g.adv, .slice yc.a3 g.dl.length yc.c3, .slice yc.a4 g.pr.length yc.c4]) := by rw [ha]; exact putSel_on (e := (16, 51, _)) 16 rfl rfl (hon 16 rfl) rfl
    have e52 : a.tmps[52]? = some (.agg #[.slice ho.a1 go.ct.length ho.c1, .slice ho.a2 go.an.length ho.c2, .int .i64 go.hang.a, .int .i64 go.hang.b, .int .i64 go.hang.c, .int .i64 go.adv, .slice ho.a3 go.dl.length ho.c3, .slice ho.a4 go.pr.length ho.c4]) := by rw [ha]; exact putSel_on (e := (17, 52, _)) 17 rfl rfl (hon 17 rfl) rfl
    have e50 : a.tmps[50]? = some (.bool true) := by rw [ha]; exact putSel_on (e := (15, 50, _)) 15 rfl rfl (hon 15 rfl) rfl
    replace ha := aM_ ha
    have HB := aM_ QHB
    have BA := aM_ QBA
    have BB := aM_ QBB
    have BG := aM_ QBG
    have BO := aM_ QBO
    have BP := aM_ QBP
    refine call_ 11 #[.agg #[.slice yc.a1 g.ct.length yc.c1, .slice yc.a2 g.an.length yc.c2, .int .i64 g.hang.a, .int .i64 g.hang.b, .int .i64 g.hang.c, .int .i64 g.adv, .slice yc.a3 g.dl.length yc.c3, .slice yc.a4 g.pr.length yc.c4], .agg #[.slice ho.a1 go.ct.length ho.c1, .slice ho.a2 go.an.length ho.c2, .int .i64 go.hang.a, .int .i64 go.hang.b, .int .i64 go.hang.c, .int .i64 go.adv, .slice ho.a3 go.dl.length ho.c3, .slice ho.a4 go.pr.length ho.c4]] (wanted_on rfl rfl rfl (e50.trans rfl)) rfl ?_ ?_
    ·go_simp
    refine (same_any g go yc ho w' (HG6.out.below HB.out) (HO6.out.below HB.out)).mono ?_
    rintro e w2' ⟨rfl, hb⟩
    refine ⟨_, rfl, ?_⟩
    refine hK.out _ _ ⟨(by rw [ha.out]; exact putSel_upk 18 hb_ rfl rfl rfl), bthen' HB.out hb, BA.out.below hb, BB.out.below hb, BG.out.below hb, BO.out.below hb, BP.out.below hb⟩
   refine steps_cons ?_ ?_
   ·rintro b a w' ⟨ha, QHB, QBA, QBB, QBG, QBO, QBP⟩ hb_ hon hoff
    refine ⟨_, rfl, fun K hK => ?_⟩
    have e8 : a.tmps[8]? = some (.pointer (some ⟨gG, 0, none⟩)) := by rw [ha]; exact (putSel_off rfl).trans rfl
    have e50 : a.tmps[50]? = some (.bool true) := by rw [ha]; exact putSel_on (e := (15, 50, _)) 15 rfl rfl (hon 15 rfl) rfl
    replace ha := aM_ ha
    have HB := aM_ QHB
    have BA := aM_ QBA
    have BB := aM_ QBB
    have BG := aM_ QBG
    have BO := aM_ QBO
    have BP := aM_ QBP
    have z0 := BG.out.cell 0
    have z1 := BG.out.cell 1
    have z2 := BG.out.cell 2
    have z3 := BG.out.cell 3
    have z4 := BG.out.cell 4
    have z5 := BG.out.cell 5
    have z6 := BG.out.cell 6
    have z7 := BG.out.cell 7
    refine value_ (w1 := w') (v := .agg #[.slice yc.a1 g.ct.length yc.c1, .slice yc.a2 g.an.length yc.c2, .int .i64 g.hang.a, .int .i64 g.hang.b, .int .i64 g.hang.c, .int .i64 g.adv, .slice yc.a3 g.dl.length yc.c3, .slice yc.a4 g.pr.length yc.c4]) (wanted_on rfl rfl rfl (e50.trans (by first | rfl | (simp [*]; done)))) rfl ?_ ?_
    ·go_simp
     (try simp only [i64_w])
     try rfl
     try assumption
    refine hK.out _ _ ⟨(by rw [ha.out]; exact putSel_upk 19 hb_ rfl rfl rfl), QHB, QBA, QBB, QBG, QBO, QBP⟩
   refine steps_cons ?_ ?_
   ·rintro b a w' ⟨ha, QHB, QBA, QBB, QBG, QBO, QBP⟩ hb_ hon hoff
    refine ⟨_, rfl, fun K hK => ?_⟩
    have e11 : a.tmps[11]? = some (.pointer (some ⟨gO, 0, none⟩)) := by rw [ha]; exact (putSel_off rfl).trans rfl
    have e50 : a.tmps[50]? = some (.bool true) := by rw [ha]; exact putSel_on (e := (15, 50, _)) 15 rfl rfl (hon 15 rfl) rfl
    replace ha := aM_ ha
    have HB := aM_ QHB
    have BA := aM_ QBA
    have BB := aM_ QBB
    have BG := aM_ QBG
    have BO := aM_ QBO
    have BP := aM_ QBP
    have z0 := BO.out.cell 0
    have z1 := BO.out.cell 1
    have z2 := BO.out.cell 2
    have z3 := BO.out.cell 3
    have z4 := BO.out.cell 4
    have z5 := BO.out.cell 5
    have z6 := BO.out.cell 6
    have z7 := BO.out.cell 7
    refine value_ (w1 := w') (v := .agg #[.slice ho.a1 go.ct.length ho.c1, .slice ho.a2 go.an.length ho.c2, .int .i64 go.hang.a, .int .i64 go.hang.b, .int .i64 go.hang.c, .int .i64 go.adv, .slice ho.a3 go.dl.length ho.c3, .slice ho.a4 go.pr.length ho.c4]) (wanted_on rfl rfl rfl (e50.trans (by first | rfl | (simp [*]; done)))) rfl ?_ ?_
    ·go_simp
     (try simp only [i64_w])
     try rfl
     try assumption
    refine hK.out _ _ ⟨(by rw [ha.out]; exact putSel_upk 20 hb_ rfl rfl rfl), QHB, QBA, QBB, QBG, QBO, QBP⟩
   refine steps_cons ?_ ?_
   ·rintro b a w' ⟨ha, QHB, QBA, QBB, QBG, QBO, QBP⟩ hb_ hon hoff
    refine ⟨_, rfl, fun K hK => ?_⟩
    have e54 : a.tmps[54]? = some (.agg #[.slice yc.a1 g.ct.length yc.c1, .slice yc.a2 g.an.length yc.c2, .int .i64 g.hang.a, .int .i64 g.hang.b, .int .i64 g.hang.c, .int .i64 g.adv, .slice yc.a3 g.dl.length yc.c3, .slice yc.a4 g.pr.length yc.c4]) := by rw [ha]; exact putSel_on (e := (19, 54, _)) 19 rfl rfl (hon 19 rfl) rfl
    have e55 : a.tmps[55]? = some (.agg #[.slice ho.a1 go.ct.length ho.c1, .slice ho.a2 go.an.length ho.c2, .int .i64 go.hang.a, .int .i64 go.hang.b, .int .i64 go.hang.c, .int .i64 go.adv, .slice ho.a3 go.dl.length ho.c3, .slice ho.a4 go.pr.length ho.c4]) := by rw [ha]; exact putSel_on (e := (20, 55, _)) 20 rfl rfl (hon 20 rfl) rfl
    have e50 : a.tmps[50]? = some (.bool true) := by rw [ha]; exact putSel_on (e := (15, 50, _)) 15 rfl rfl (hon 15 rfl) rfl
    replace ha := aM_ ha
    have HB := aM_ QHB
    have BA := aM_ QBA
    have BB := aM_ QBB
    have BG := aM_ QBG
    have BO := aM_ QBO
    have BP := aM_ QBP
    refine call_ 12 #[.agg #[.slice yc.a1 g.ct.length yc.c1, .slice yc.a2 g.an.length yc.c2, .int .i64 g.hang.a, .int .i64 g.hang.b, .int .i64 g.hang.c, .int .i64 g.adv, .slice yc.a3 g.dl.length yc.c3, .slice yc.a4 g.pr.length yc.c4], .agg #[.slice ho.a1 go.ct.length ho.c1, .slice ho.a2 go.an.length ho.c2, .int .i64 go.hang.a, .int .i64 go.hang.b, .int .i64 go.hang.c, .int .i64 go.adv, .slice ho.a3 go.dl.length ho.c3, .slice ho.a4 go.pr.length ho.c4]] (wanted_on rfl rfl rfl (e50.trans rfl)) rfl ?_ ?_
    ·go_simp
    refine (rfSame_any g go yc ho w' (HG6.out.below HB.out) (HO6.out.below HB.out)).mono ?_
    rintro e w2' ⟨rfl, hb⟩
    refine ⟨_, rfl, ?_⟩
    refine hK.out _ _ ⟨(by rw [ha.out]; exact putSel_upk 21 hb_ rfl rfl rfl), bthen' HB.out hb, BA.out.below hb, BB.out.below hb, BG.out.below hb, BO.out.below hb, BP.out.below hb⟩
   refine steps_cons ?_ ?_
   ·rintro b a w' ⟨ha, QHB, QBA, QBB, QBG, QBO, QBP⟩ hb_ hon hoff
    refine ⟨_, rfl, fun K hK => ?_⟩
    have e53 : a.tmps[53]? = some (.bool (sameB g go)) := by rw [ha]; exact putSel_on (e := (18, 53, _)) 18 rfl rfl (hon 18 rfl) rfl
    have e56 : a.tmps[56]? = some (.bool (sameB g go)) := by rw [ha]; exact putSel_on (e := (21, 56, _)) 21 rfl rfl (hon 21 rfl) rfl
    have e50 : a.tmps[50]? = some (.bool true) := by rw [ha]; exact putSel_on (e := (15, 50, _)) 15 rfl rfl (hon 15 rfl) rfl
    replace ha := aM_ ha
    have HB := aM_ QHB
    have BA := aM_ QBA
    have BB := aM_ QBB
    have BG := aM_ QBG
    have BO := aM_ QBO
    have BP := aM_ QBP
    refine value_ (w1 := w') (v := .bool true) (wanted_on rfl rfl rfl (e50.trans (by first | rfl | (simp [*]; done)))) rfl ?_ ?_
    ·go_simp
     (try simp only [i64_w])
     try rfl
     try assumption
    refine hK.out _ _ ⟨(by rw [ha.out]; exact putSel_upk 22 hb_ rfl rfl rfl), QHB, QBA, QBB, QBG, QBO, QBP⟩
   refine steps_cons ?_ ?_
   ·rintro b a w' ⟨ha, QHB, QBA, QBB, QBG, QBO, QBP⟩ hb_ hon hoff
    refine ⟨_, rfl, fun K hK => ?_⟩
    have e50 : a.tmps[50]? = some (.bool true) := by rw [ha]; exact putSel_on (e := (15, 50, _)) 15 rfl rfl (hon 15 rfl) rfl
    have e57 : a.tmps[57]? = some (.bool true) := by rw [ha]; exact putSel_on (e := (22, 57, _)) 22 rfl rfl (hon 22 rfl) rfl
    replace ha := aM_ ha
    have HB := aM_ QHB
    have BA := aM_ QBA
    have BB := aM_ QBB
    have BG := aM_ QBG
    have BO := aM_ QBO
    have BP := aM_ QBP
    refine value_ (w1 := w') (v := .bool true) (by rfl) rfl ?_ ?_
    ·go_simp
     (try simp only [i64_w])
     try rfl
     try assumption
    refine hK.out _ _ ⟨(by rw [ha.out]; exact putSel_upk 23 hb_ rfl rfl rfl), QHB, QBA, QBB, QBG, QBO, QBP⟩
   refine steps_cons ?_ ?_
   ·rintro b a w' ⟨ha, QHB, QBA, QBB, QBG, QBO, QBP⟩ hb_ hon hoff
    refine ⟨_, rfl, fun K hK => ?_⟩
    have e58 : a.tmps[58]? = some (.bool true) := by rw [ha]; exact putSel_on (e := (23, 58, _)) 23 rfl rfl (hon 23 rfl) rfl
    replace ha := aM_ ha
    have HB := aM_ QHB
    have BA := aM_ QBA
    have BB := aM_ QBB
    have BG := aM_ QBG
    have BO := aM_ QBO
    have BP := aM_ QBP
    refine value_ (w1 := w') (v := .bool true) (by rfl) rfl ?_ ?_
    ·go_simp
     (try simp only [i64_w])
     try rfl
     try assumption
    refine hK.out _ _ ⟨(by rw [ha.out]; exact putSel_upk 24 hb_ rfl rfl rfl), QHB, QBA, QBB, QBG, QBO, QBP⟩
   refine steps_cons ?_ ?_
   ·rintro b a w' ⟨ha, QHB, QBA, QBB, QBG, QBO, QBP⟩ hb_ hon hoff
    refine ⟨_, rfl, fun K hK => ?_⟩
    have e8 : a.tmps[8]? = some (.pointer (some ⟨gG, 0, none⟩)) := by rw [ha]; exact (putSel_off rfl).trans rfl
    have e59 : a.tmps[59]? = some (.bool true) := by rw [ha]; exact putSel_on (e := (24, 59, _)) 24 rfl rfl (hon 24 rfl) rfl
    replace ha := aM_ ha
    have HB := aM_ QHB
    have BA := aM_ QBA
    have BB := aM_ QBB
    have BG := aM_ QBG
    have BO := aM_ QBO
    have BP := aM_ QBP
    have z0 := BG.out.cell 0
    have z1 := BG.out.cell 1
    have z2 := BG.out.cell 2
    have z3 := BG.out.cell 3
    have z4 := BG.out.cell 4
    have z5 := BG.out.cell 5
    have z6 := BG.out.cell 6
    have z7 := BG.out.cell 7
    refine value_ (w1 := w') (v := .agg #[.slice yc.a1 g.ct.length yc.c1, .slice yc.a2 g.an.length yc.c2, .int .i64 g.hang.a, .int .i64 g.hang.b, .int .i64 g.hang.c, .int .i64 g.adv, .slice yc.a3 g.dl.length yc.c3, .slice yc.a4 g.pr.length yc.c4]) (wanted_on rfl rfl rfl (e59.trans (by first | rfl | (simp [*]; done)))) rfl ?_ ?_
    ·go_simp
     (try simp only [i64_w])
     try rfl
     try assumption
    refine hK.out _ _ ⟨(by rw [ha.out]; exact putSel_upk 25 hb_ rfl rfl rfl), QHB, QBA, QBB, QBG, QBO, QBP⟩
   refine steps_cons ?_ ?_
   ·rintro b a w' ⟨ha, QHB, QBA, QBB, QBG, QBO, QBP⟩ hb_ hon hoff
    refine ⟨_, rfl, fun K hK => ?_⟩
    have e12 : a.tmps[12]? = some (.pointer (some ⟨gP, 0, none⟩)) := by rw [ha]; exact (putSel_off rfl).trans rfl
    have e59 : a.tmps[59]? = some (.bool true) := by rw [ha]; exact putSel_on (e := (24, 59, _)) 24 rfl rfl (hon 24 rfl) rfl
    replace ha := aM_ ha
    have HB := aM_ QHB
    have BA := aM_ QBA
    have BB := aM_ QBB
    have BG := aM_ QBG
    have BO := aM_ QBO
    have BP := aM_ QBP
    have z0 := BP.out.cell 0
    have z1 := BP.out.cell 1
    have z2 := BP.out.cell 2
    have z3 := BP.out.cell 3
    have z4 := BP.out.cell 4
    have z5 := BP.out.cell 5
    have z6 := BP.out.cell 6
    have z7 := BP.out.cell 7
    refine value_ (w1 := w') (v := .agg #[.slice yc.a1 g.ct.length yc.c1, .slice yc.a2 g.an.length yc.c2, .int .i64 g.hang.a, .int .i64 g.hang.b, .int .i64 g.hang.c, .int .i64 g.adv, .slice yc.a3 g.dl.length yc.c3, .slice (some ⟨gq, 0, none⟩) 1 1]) (wanted_on rfl rfl rfl (e59.trans (by first | rfl | (simp [*]; done)))) rfl ?_ ?_
    ·go_simp
     (try simp only [i64_w])
     try rfl
     try assumption
    refine hK.out _ _ ⟨(by rw [ha.out]; exact putSel_upk 26 hb_ rfl rfl rfl), QHB, QBA, QBB, QBG, QBO, QBP⟩
   refine steps_cons ?_ ?_
   ·rintro b a w' ⟨ha, QHB, QBA, QBB, QBG, QBO, QBP⟩ hb_ hon hoff
    refine ⟨_, rfl, fun K hK => ?_⟩
    have e60 : a.tmps[60]? = some (.agg #[.slice yc.a1 g.ct.length yc.c1, .slice yc.a2 g.an.length yc.c2, .int .i64 g.hang.a, .int .i64 g.hang.b, .int .i64 g.hang.c, .int .i64 g.adv, .slice yc.a3 g.dl.length yc.c3, .slice yc.a4 g.pr.length yc.c4]) := by rw [ha]; exact putSel_on (e := (25, 60, _)) 25 rfl rfl (hon 25 rfl) rfl
    have e61 : a.tmps[61]? = some (.agg #[.slice yc.a1 g.ct.length yc.c1, .slice yc.a2 g.an.length yc.c2, .int .i64 g.hang.a, .int .i64 g.hang.b, .int .i64 g.hang.c, .int .i64 g.adv, .slice yc.a3 g.dl.length yc.c3, .slice (some ⟨gq, 0, none⟩) 1 1]) := by rw [ha]; exact putSel_on (e := (26, 61, _)) 26 rfl rfl (hon 26 rfl) rfl
    have e59 : a.tmps[59]? = some (.bool true) := by rw [ha]; exact putSel_on (e := (24, 59, _)) 24 rfl rfl (hon 24 rfl) rfl
    replace ha := aM_ ha
    have HB := aM_ QHB
    have BA := aM_ QBA
    have BB := aM_ QBB
    have BG := aM_ QBG
    have BO := aM_ QBO
    have BP := aM_ QBP
    refine call_ 11 #[.agg #[.slice yc.a1 g.ct.length yc.c1, .slice yc.a2 g.an.length yc.c2, .int .i64 g.hang.a, .int .i64 g.hang.b, .int .i64 g.hang.c, .int .i64 g.adv, .slice yc.a3 g.dl.length yc.c3, .slice yc.a4 g.pr.length yc.c4], .agg #[.slice yc.a1 g.ct.length yc.c1, .slice yc.a2 g.an.length yc.c2, .int .i64 g.hang.a, .int .i64 g.hang.b, .int .i64 g.hang.c, .int .i64 g.adv, .slice yc.a3 g.dl.length yc.c3, .slice (some ⟨gq, 0, none⟩) 1 1]] (wanted_on rfl rfl rfl (e59.trans rfl)) rfl ?_ ?_
    ·go_simp
    refine (same_any g (⟨g.ct, g.an, g.hang, g.adv, g.dl, [⟨1, o0⟩]⟩ : Gl) yc ⟨yc.a1, yc.c1, yc.a2, yc.c2, yc.a3, yc.c3, some ⟨gq, 0, none⟩, 1⟩ w' (HG6.out.below HB.out) (HGPr.out.below HB.out)).mono ?_
    rintro e w2' ⟨rfl, hb⟩
    rw [HS3.out]
    refine ⟨_, rfl, ?_⟩
    refine hK.out _ _ ⟨(by rw [ha.out]; exact putSel_upk 27 hb_ rfl rfl rfl), bthen' HB.out hb, BA.out.below hb, BB.out.below hb, BG.out.below hb, BO.out.below hb, BP.out.below hb⟩
   refine steps_cons ?_ ?_
   ·rintro b a w' ⟨ha, QHB, QBA, QBB, QBG, QBO, QBP⟩ hb_ hon hoff
    refine ⟨_, rfl, fun K hK => ?_⟩
    have e62 : a.tmps[62]? = some (.bool false) := by rw [ha]; exact putSel_on (e := (27, 62, _)) 27 rfl rfl (hon 27 rfl) rfl
    have e59 : a.tmps[59]? = some (.bool true) := by rw [ha]; exact putSel_on (e := (24, 59, _)) 24 rfl rfl (hon 24 rfl) rfl
    replace ha := aM_ ha
    have HB := aM_ QHB
    have BA := aM_ QBA
    have BB := aM_ QBB
    have BG := aM_ QBG
    have BO := aM_ QBO
    have BP := aM_ QBP
    refine value_ (w1 := w') (v := .bool true) (wanted_on rfl rfl rfl (e59.trans (by first | rfl | (simp [*]; done)))) rfl ?_ ?_
    ·go_simp
     (try simp only [i64_w])
     try rfl
     try assumption
    refine hK.out _ _ ⟨(by rw [ha.out]; exact putSel_upk 28 hb_ rfl rfl rfl), QHB, QBA, QBB, QBG, QBO, QBP⟩
   refine steps_cons ?_ ?_
   ·rintro b a w' ⟨ha, QHB, QBA, QBB, QBG, QBO, QBP⟩ hb_ hon hoff
    refine ⟨_, rfl, fun K hK => ?_⟩
    have e59 : a.tmps[59]? = some (.bool true) := by rw [ha]; exact putSel_on (e := (24, 59, _)) 24 rfl rfl (hon 24 rfl) rfl
    have e63 : a.tmps[63]? = some (.bool true) := by rw [ha]; exact putSel_on (e := (28, 63, _)) 28 rfl rfl (hon 28 rfl) rfl
    replace ha := aM_ ha
    have HB := aM_ QHB
    have BA := aM_ QBA
    have BB := aM_ QBB
    have BG := aM_ QBG
    have BO := aM_ QBO
    have BP := aM_ QBP
    refine value_ (w1 := w') (v := .bool true) (by rfl) rfl ?_ ?_
    ·go_simp
     (try simp only [i64_w])
     try rfl
     try assumption
    refine hK.out _ _ ⟨(by rw [ha.out]; exact putSel_upk 29 hb_ rfl rfl rfl), QHB, QBA, QBB, QBG, QBO, QBP⟩
   refine steps_cons ?_ ?_
   ·rintro b a w' ⟨ha, QHB, QBA, QBB, QBG, QBO, QBP⟩ hb_ hon hoff
    refine ⟨_, rfl, fun K hK => ?_⟩
    have e64 : a.tmps[64]? = some (.bool true) := by rw [ha]; exact putSel_on (e := (29, 64, _)) 29 rfl rfl (hon 29 rfl) rfl
    replace ha := aM_ ha
    have HB := aM_ QHB
    have BA := aM_ QBA
    have BB := aM_ QBB
    have BG := aM_ QBG
    have BO := aM_ QBO
    have BP := aM_ QBP
    refine value_ (w1 := w') (v := .bool true) (by rfl) rfl ?_ ?_
    ·go_simp
     (try simp only [i64_w])
     try rfl
     try assumption
    refine hK.out _ _ ⟨(by rw [ha.out]; exact putSel_upk 30 hb_ rfl rfl rfl), QHB, QBA, QBB, QBG, QBO, QBP⟩
   refine steps_cons ?_ ?_
   ·rintro b a w' ⟨ha, QHB, QBA, QBB, QBG, QBO, QBP⟩ hb_ hon hoff
    refine ⟨_, rfl, fun K hK => ?_⟩
    have e12 : a.tmps[12]? = some (.pointer (some ⟨gP, 0, none⟩)) := by rw [ha]; exact (putSel_off rfl).trans rfl
    have e65 : a.tmps[65]? = some (.bool true) := by rw [ha]; exact putSel_on (e := (30, 65, _)) 30 rfl rfl (hon 30 rfl) rfl
    replace ha := aM_ ha
    have HB := aM_ QHB
    have BA := aM_ QBA
    have BB := aM_ QBB
    have BG := aM_ QBG
    have BO := aM_ QBO
    have BP := aM_ QBP
    have z0 := BP.out.cell 0
    have z1 := BP.out.cell 1
    have z2 := BP.out.cell 2
    have z3 := BP.out.cell 3
    have z4 := BP.out.cell 4
    have z5 := BP.out.cell 5
    have z6 := BP.out.cell 6
    have z7 := BP.out.cell 7
    refine value_ (w1 := w') (v := .agg #[.slice yc.a1 g.ct.length yc.c1, .slice yc.a2 g.an.length yc.c2, .int .i64 g.hang.a, .int .i64 g.hang.b, .int .i64 g.hang.c, .int .i64 g.adv, .slice yc.a3 g.dl.length yc.c3, .slice (some ⟨gq, 0, none⟩) 1 1]) (wanted_on rfl rfl rfl (e65.trans (by first | rfl | (simp [*]; done)))) rfl ?_ ?_
    ·go_simp
     (try simp only [i64_w])
     try rfl
     try assumption
    refine hK.out _ _ ⟨(by rw [ha.out]; exact putSel_upk 31 hb_ rfl rfl rfl), QHB, QBA, QBB, QBG, QBO, QBP⟩
   refine steps_cons ?_ ?_
   ·rintro b a w' ⟨ha, QHB, QBA, QBB, QBG, QBO, QBP⟩ hb_ hon hoff
    refine ⟨_, rfl, fun K hK => ?_⟩
    have e12 : a.tmps[12]? = some (.pointer (some ⟨gP, 0, none⟩)) := by rw [ha]; exact (putSel_off rfl).trans rfl
    have e65 : a.tmps[65]? = some (.bool true) := by rw [ha]; exact putSel_on (e := (30, 65, _)) 30 rfl rfl (hon 30 rfl) rfl
    replace ha := aM_ ha
    have HB := aM_ QHB
    have BA := aM_ QBA
    have BB := aM_ QBB
    have BG := aM_ QBG
    have BO := aM_ QBO
    have BP := aM_ QBP
    have z0 := BP.out.cell 0
    have z1 := BP.out.cell 1
    have z2 := BP.out.cell 2
    have z3 := BP.out.cell 3
    have z4 := BP.out.cell 4
    have z5 := BP.out.cell 5
    have z6 := BP.out.cell 6
    have z7 := BP.out.cell 7
    refine value_ (w1 := w') (v := .agg #[.slice yc.a1 g.ct.length yc.c1, .slice yc.a2 g.an.length yc.c2, .int .i64 g.hang.a, .int .i64 g.hang.b, .int .i64 g.hang.c, .int .i64 g.adv, .slice yc.a3 g.dl.length yc.c3, .slice (some ⟨gq, 0, none⟩) 1 1]) (wanted_on rfl rfl rfl (e65.trans (by first | rfl | (simp [*]; done)))) rfl ?_ ?_
    ·go_simp
     (try simp only [i64_w])
     try rfl
     try assumption
    refine hK.out _ _ ⟨(by rw [ha.out]; exact putSel_upk 32 hb_ rfl rfl rfl), QHB, QBA, QBB, QBG, QBO, QBP⟩
   refine steps_cons ?_ ?_
   ·rintro b a w' ⟨ha, QHB, QBA, QBB, QBG, QBO, QBP⟩ hb_ hon hoff
    refine ⟨_, rfl, fun K hK => ?_⟩
    have e66 : a.tmps[66]? = some (.agg #[.slice yc.a1 g.ct.length yc.c1, .slice yc.a2 g.an.length yc.c2, .int .i64 g.hang.a, .int .i64 g.hang.b, .int .i64 g.hang.c, .int .i64 g.adv, .slice yc.a3 g.dl.length yc.c3, .slice (some ⟨gq, 0, none⟩) 1 1]) := by rw [ha]; exact putSel_on (e := (31, 66, _)) 31 rfl rfl (hon 31 rfl) rfl
    have e67 : a.tmps[67]? = some (.agg #[.slice yc.a1 g.ct.length yc.c1, .slice yc.a2 g.an.length yc.c2, .int .i64 g.hang.a, .int .i64 g.hang.b, .int .i64 g.hang.c, .int .i64 g.adv, .slice yc.a3 g.dl.length yc.c3, .slice (some ⟨gq, 0, none⟩) 1 1]) := by rw [ha]; exact putSel_on (e := (32, 67, _)) 32 rfl rfl (hon 32 rfl) rfl
    have e65 : a.tmps[65]? = some (.bool true) := by rw [ha]; exact putSel_on (e := (30, 65, _)) 30 rfl rfl (hon 30 rfl) rfl
    replace ha := aM_ ha
    have HB := aM_ QHB
    have BA := aM_ QBA
    have BB := aM_ QBB
    have BG := aM_ QBG
    have BO := aM_ QBO
    have BP := aM_ QBP
    refine call_ 11 #[.agg #[.slice yc.a1 g.ct.length yc.c1, .slice yc.a2 g.an.length yc.c2, .int .i64 g.hang.a, .int .i64 g.hang.b, .int .i64 g.hang.c, .int .i64 g.adv, .slice yc.a3 g.dl.length yc.c3, .slice (some ⟨gq, 0, none⟩) 1 1], .agg #[.slice yc.a1 g.ct.length yc.c1, .slice yc.a2 g.an.length yc.c2, .int .i64 g.hang.a, .int .i64 g.hang.b, .int .i64 g.hang.c, .int .i64 g.adv, .slice yc.a3 g.dl.length yc.c3, .slice (some ⟨gq, 0, none⟩) 1 1]] (wanted_on rfl rfl rfl (e65.trans rfl)) rfl ?_ ?_
    ·go_simp
    refine (same_any (⟨g.ct, g.an, g.hang, g.adv, g.dl, [⟨1, o0⟩]⟩ : Gl) (⟨g.ct, g.an, g.hang, g.adv, g.dl, [⟨1, o0⟩]⟩ : Gl) ⟨yc.a1, yc.c1, yc.a2, yc.c2, yc.a3, yc.c3, some ⟨gq, 0, none⟩, 1⟩ ⟨yc.a1, yc.c1, yc.a2, yc.c2, yc.a3, yc.c3, some ⟨gq, 0, none⟩, 1⟩ w' (HGPr.out.below HB.out) (HGPr.out.below HB.out)).mono ?_
    rintro e w2' ⟨rfl, hb⟩
    rw [HS2.out]
    refine ⟨_, rfl, ?_⟩
    refine hK.out _ _ ⟨(by rw [ha.out]; exact putSel_upk 33 hb_ rfl rfl rfl), bthen' HB.out hb, BA.out.below hb, BB.out.below hb, BG.out.below hb, BO.out.below hb, BP.out.below hb⟩
   refine steps_cons ?_ ?_
   ·rintro b a w' ⟨ha, QHB, QBA, QBB, QBG, QBO, QBP⟩ hb_ hon hoff
    refine ⟨_, rfl, fun K hK => ?_⟩
    have e65 : a.tmps[65]? = some (.bool true) := by rw [ha]; exact putSel_on (e := (30, 65, _)) 30 rfl rfl (hon 30 rfl) rfl
    have e68 : a.tmps[68]? = some (.bool true) := by rw [ha]; exact putSel_on (e := (33, 68, _)) 33 rfl rfl (hon 33 rfl) rfl
    replace ha := aM_ ha
    have HB := aM_ QHB
    have BA := aM_ QBA
    have BB := aM_ QBB
    have BG := aM_ QBG
    have BO := aM_ QBO
    have BP := aM_ QBP
    refine value_ (w1 := w') (v := .bool true) (by rfl) rfl ?_ ?_
    ·go_simp
     (try simp only [i64_w])
     try rfl
     try assumption
    refine hK.out _ _ ⟨(by rw [ha.out]; exact putSel_upk 34 hb_ rfl rfl rfl), QHB, QBA, QBB, QBG, QBO, QBP⟩
   refine steps_cons ?_ ?_
   ·rintro b a w' ⟨ha, QHB, QBA, QBB, QBG, QBO, QBP⟩ hb_ hon hoff
    refine ⟨_, rfl, fun K hK => ?_⟩
    have e69 : a.tmps[69]? = some (.bool true) := by rw [ha]; exact putSel_on (e := (34, 69, _)) 34 rfl rfl (hon 34 rfl) rfl
    replace ha := aM_ ha
    have HB := aM_ QHB
    have BA := aM_ QBA
    have BB := aM_ QBB
    have BG := aM_ QBG
    have BO := aM_ QBO
    have BP := aM_ QBP
    refine value_ (w1 := w') (v := .bool true) (by rfl) rfl ?_ ?_
    ·go_simp
     (try simp only [i64_w])
     try rfl
     try assumption
    refine hK.out _ _ ⟨(by rw [ha.out]; exact putSel_upk 35 hb_ rfl rfl rfl), QHB, QBA, QBB, QBG, QBO, QBP⟩
   exact steps_nil
  ·rintro b a w' hall ⟨ha, QHB, QBA, QBB, QBG, QBO, QBP⟩
   clear BA BB BG BO BP HB
   have hb0_ := hall 0 (by kernel_rfl)
   have hb1_ := hall 1 (by kernel_rfl)
   have hb2_ := hall 2 (by kernel_rfl)
   have hb3_ := hall 3 (by kernel_rfl)
   have hb4_ := hall 4 (by kernel_rfl)
   have hb5_ := hall 5 (by kernel_rfl)
   have hb6_ := hall 6 (by kernel_rfl)
   have hb7_ := hall 7 (by kernel_rfl)
   have hb8_ := hall 8 (by kernel_rfl)
   have hb9_ := hall 9 (by kernel_rfl)
   have hb10_ := hall 10 (by kernel_rfl)
   have hb11_ := hall 11 (by kernel_rfl)
   have hb12_ := hall 12 (by kernel_rfl)
   have hb13_ := hall 13 (by kernel_rfl)
   have hb14_ := hall 14 (by kernel_rfl)
   have hb15_ := hall 15 (by kernel_rfl)
   have hb16_ := hall 16 (by kernel_rfl)
   have hb17_ := hall 17 (by kernel_rfl)
   have hb18_ := hall 18 (by kernel_rfl)
   have hb19_ := hall 19 (by kernel_rfl)
   have hb20_ := hall 20 (by kernel_rfl)
   have hb21_ := hall 21 (by kernel_rfl)
   have hb22_ := hall 22 (by kernel_rfl)
   have hb23_ := hall 23 (by kernel_rfl)
   have hb24_ := hall 24 (by kernel_rfl)
   have hb25_ := hall 25 (by kernel_rfl)
   have hb26_ := hall 26 (by kernel_rfl)
   have hb27_ := hall 27 (by kernel_rfl)
   have hb28_ := hall 28 (by kernel_rfl)
   have hb29_ := hall 29 (by kernel_rfl)
   have hb30_ := hall 30 (by kernel_rfl)
   have hb31_ := hall 31 (by kernel_rfl)
   have hb32_ := hall 32 (by kernel_rfl)
   have hb33_ := hall 33 (by kernel_rfl)
   have hb34_ := hall 34 (by kernel_rfl)
   have hb35_ := hall 35 (by kernel_rfl)
   subst ha
   simp only [putSel, hb0_, hb1_, hb2_, hb3_, hb4_, hb5_, hb6_, hb7_, hb8_, hb9_, hb10_, hb11_, hb12_, hb13_, hb14_, hb15_, hb16_, hb17_, hb18_, hb19_, hb20_, hb21_, hb22_, hb23_, hb24_, hb25_, hb26_, hb27_, hb28_, hb29_, hb30_, hb31_, hb32_, hb33_, hb34_, hb35_, if_true, Act.put, List.setIfInBounds_toArray, List.set_cons_zero, List.set_cons_succ]
   have HB := aM_ QHB
   clear QHB
   have BA := aM_ QBA
   clear QBA
   have BB := aM_ QBB
   clear QBB
   have BG := aM_ QBG
   clear QBG
   have BO := aM_ QBO
   clear QBO
   have BP := aM_ QBP
   clear QBP
   clear hall hb0_ hb1_ hb2_ hb3_ hb4_ hb5_ hb6_ hb7_ hb8_ hb9_ hb10_ hb11_ hb12_ hb13_ hb14_ hb15_ hb16_ hb17_ hb18_ hb19_ hb20_ hb21_ hb22_ hb23_ hb24_ hb25_ hb26_ hb27_ hb28_ hb29_ hb30_ hb31_ hb32_ hb33_ hb34_ hb35_
   have HX7 := lH_ (bthen' HX.out HB.out)
   clear BA BB BG BO BP HB HW_ HT_
   go_wp2_with fail
   go_ret
   exact ⟨rfl, HX7.out⟩
/- OutlineSame: its walk at the row's arguments. -/
theorem outlineSame_walk (gl1 : Gl) (hd1 : Hd) (gl2 : Gl) (hd2 : Hd) (l1 l2 l3 : List Int) (A1 A2 A3 : Option Addr) (c1 c2 c3 : Nat) (o0 o1 o2 x y : Int) (w : World) (hg1 : GlR w gl1 hd1) (hg2 : GlR w gl2 hd2) (hx : 0 ≤ x ∧ x ≤ 255) (hy : 0 ≤ y ∧ y ≤ 255) (h1 : Kd.C kI w A1 l1.length l1) (h2 : Kd.C kI w A2 l2.length l2) (h3 : Kd.C kI w A3 l3.length l3) (h4 : l2.length ≤ c2) :
  Calls Try.prog 3 #[.agg (gv gl1 hd1), .agg (gv gl2 hd2), .agg #[.slice A1 l1.length c1, .slice A2 l2.length c2, .slice A3 l3.length c3, .int .i64 o0, .int .i64 o1, .int .i64 o2, .int .u8 x, .int .u8 y]] w fun e w' => e = .returned (.bool true) ∧ Below w.heap.size w w' :=
 same_law gl1 gl2 hd1 hd2 l1 l2 l3 A1 A2 A3 c1 c2 c3 o0 o1 o2 x y w hg1 hg2 hx hy h1 h2 h3 h4

end Go.Proofs.Ythpccdhmppbkfaa