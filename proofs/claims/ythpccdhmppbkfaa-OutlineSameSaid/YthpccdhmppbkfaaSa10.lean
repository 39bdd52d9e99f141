/- OCut: merged by wip/prune.py. -/
import Derived.Test.YthpccdhmppbkfaaSa8
import Derived.Test.YthpccdhmppbkfaaSa9
/- the law's cut. -/
set_option linter.unusedVariables false
set_option linter.unusedSimpArgs false
set_option maxRecDepth 100000
set_option maxHeartbeats 16000000
namespace Go.Proofs.Ythpccdhmppbkfaa
open Go.RowKit Go.Shelf Go.Proofs.YthpccdhmppbkfaaW.PrintWords Go.Proofs.YthpccdhmppbkfaaW.PrintLast Go.Proofs.YthpccdhmppbkfaaW.PrintMore
attribute [local go_sem] max2_int min2_int max_two min_two
theorem infoIns : (Try.prog.info? 41).map (fun i => (i.zero, i.size, i.bytes)) = some (some (.agg #[.int .i64 0, .int .i64 0]), 2, 16) := by kernel_rfl
theorem C_cut {α : Type} {d : Kd α} {w : World} {A : Option Addr} {xs : List α} (h : Kd.C d w A xs.length xs) (m : Nat) : Kd.C d w A (xs.take m).length (xs.take m) := by
 rcases Nat.le_total m xs.length with h1 | h1
 ·exact C_take h m h1
 ·rw [List.take_of_length_le h1]; exact h
def oCu1.T1 : Bool × List (List Nat × List Nat) := (true, [([], []), ([0], [0]), ([], []), ([2], [2]), ([], []), ([], []), ([5], [5]), ([], []), ([7], [7]), ([8], [8]), ([9], [9]), ([6, 10], [6, 10]), ([4, 11], [4, 11]), ([], []), ([], []), ([14], [14]), ([], []), ([16], [16]), ([17], [17]), ([18], [18]), ([15, 19], [15, 19]), ([13, 20, 12], [13, 20]), ([1, 3, 12, 21], [1, 3, 12, 21]), ([], []), ([23, 22, 21, 0, 1, 2, 3, 4, 5, 6, 7, 8, 9, 10, 11, 12, 13, 14, 15, 16, 17, 18, 19, 20, 21, 22, 23], [22, 23])])
def oCu1.B1 : List Nat := [0, 1, 0, 4, 0, 0, 32, 0, 128, 384, 896, 2016, 4080, 0, 0, 16384, 0, 65536, 196608, 458752, 1032192, 2097136, 4194303, 0, 16777215]
theorem oCu1.tab1 : rtab .any (opsOf Try.f8 1) = oCu1.T1 := by kernel_rfl
theorem oCu1.bits1 : waitsOk oCu1.T1.2 oCu1.B1 = true := by kernel_rfl
def oCu5.T5 : Bool × List (List Nat × List Nat) := (true, [([], []), ([0], [0]), ([], []), ([], []), ([3], [3]), ([], []), ([4, 5], [4, 5]), ([6], [6]), ([], []), ([8], [8]), ([], []), ([9, 10], [9, 10]), ([11], [11]), ([12], [12]), ([13], [13]), ([7, 14], [7, 14]), ([2, 15], [2, 15]), ([16], [16]), ([1, 17, 16], [1, 17]), ([0, 1, 2, 3, 4, 5, 6, 7, 8, 9, 10, 11, 12, 13, 14, 15, 16, 17, 18], []), ([19, 18, 18, 0, 1, 2, 3, 4, 5, 6, 7, 8, 9, 10, 11, 12, 13, 14, 15, 16, 17, 18], [18, 19])])
def oCu5.B5 : List Nat := [0, 1, 0, 0, 8, 0, 56, 120, 0, 256, 0, 1792, 3840, 7936, 16128, 32760, 65532, 131068, 262143, 524287, 1048575]
theorem oCu5.tab5 : rtab .any (opsOf Try.f8 5) = oCu5.T5 := by kernel_rfl
theorem oCu5.bits5 : waitsOk oCu5.T5.2 oCu5.B5 = true := by kernel_rfl
structure GlQ (w : World) (base : Nat) (g : Gl) (h : Hd) : Prop where
 ct : Kd.R kCt 71 w base (fun _ => True) (.slice h.a1 g.ct.length h.c1) g.ct
 an : Kd.R kI3 25 w base (fun _ => True) (.slice h.a2 g.an.length h.c2) g.an
 dl : Kd.R kDl 59 w base (fun _ => True) (.slice h.a3 g.dl.length h.c3) g.dl
 pr : Kd.R kI2 41 w base (fun _ => True) (.slice h.a4 g.pr.length h.c4) g.pr
theorem GlQ.glR {w : World} {b : Nat} {g : Gl} {h : Hd} (o : GlQ w b g h) : GlR w g h := ⟨(Kd.R_reads' o.ct).2.2, (Kd.R_reads' o.an).2.2, (Kd.R_reads' o.dl).2.2, (Kd.R_reads' o.pr).2.2, (Kd.R_reads' o.ct).2.1, (Kd.R_reads' o.an).2.1, (Kd.R_reads' o.dl).2.1, (Kd.R_reads' o.pr).2.1⟩
theorem GlQ.below {w w1 : World} {b : Nat} {g : Gl} {h : Hd} (o : GlQ w b g h) (hb : Below w.heap.size w w1) : GlQ w1 b g h := ⟨Kd.R_below o.ct hb, Kd.R_below o.an hb, Kd.R_below o.dl hb, Kd.R_below o.pr hb⟩
theorem GlQ.lower {w : World} {b b' : Nat} {g : Gl} {h : Hd} (o : GlQ w b g h) (hb : b' ≤ b) : GlQ w b' g h := ⟨Kd.R_lower o.ct hb, Kd.R_lower o.an hb, Kd.R_lower o.dl hb, Kd.R_lower o.pr hb⟩
theorem GlQ.set {w : World} {b gb : Nat} {g : Gl} {h : Hd} {cs : Array Value} (o : GlQ w b g h) (B : Blk w gb cs 29) (j : Nat) (v : Value) : GlQ (w.setCell ⟨gb, j, none⟩ v) b g h := ⟨Kd.R_set o.ct B (by decide) j v, Kd.R_set o.an B (by decide) j v, Kd.R_set o.dl B (by decide) j v, Kd.R_set o.pr B (by decide) j v⟩
theorem cut_any (g : Gl) (h : Hd) (w : World) (hg : GlR w g h) : Calls Try.prog 8 #[.agg (gv g h)] w fun e w' => ∃ g' h', e = .returned (.agg (gv g' h')) ∧ GlQ w' w.heap.size g' h' ∧ Below w.heap.size w w' := by
 have HG := lH_ hg
 have hm1 : g.an.length ≤ 9223372036854775807 := hg.an.2.1
 have hm2 : g.pr.length ≤ 9223372036854775807 := hg.pr.2.1
 have hm3 : g.ct.length ≤ 9223372036854775807 := hg.ct.2.1
 have hm4 : g.dl.length ≤ 9223372036854775807 := hg.dl.2.1
 clear hg
 obtain ⟨N1, n1, N2, n2, N3, n3, N4, n4⟩ := h
 go_enter Try.func8, Try.ntmps8
 unfold gv
 dsimp only
 go_upto_region 1 with fail
 obtain ⟨w1, gI, hw0_, hg0_, XgI_, YgI_, _⟩ := new_box w #[.slice N1 g.ct.length n1, .slice N2 g.an.length n2, .int .i64 g.hang.a, .int .i64 g.hang.b, .int .i64 g.hang.c, .int .i64 g.adv, .slice N3 g.dl.length n3, .slice N4 g.pr.length n4] 29
 obtain ⟨w2, gR, hw1_, hg1_, XgR_, YgR_, _⟩ := new_box w1 #[.slice none 0 0, .slice none 0 0, .int .i64 0, .int .i64 0, .int .i64 0, .int .i64 0, .slice none 0 0, .slice none 0 0] 29
 have s1_ : w.heap.size + 1 = gR := by rw [← hg1_, ← hw0_]; simp
 rw [hw0_, hw1_, s1_, hg0_]
 have EgI := lH_ (show gI = w.heap.size + 0 by omega)
 have EgR := lH_ (show gR = w.heap.size + 1 by omega)
 clear hw0_ hg0_ hw1_ hg1_ s1_
 have HXw2 := lH_ (bthen' (YgI_.out) YgR_.out)
 have BgI := lH_ ((XgI_.out).below YgR_.out)
 have BgR := lH_ (XgR_.out)
 clear XgI_ YgI_ XgR_ YgR_
 have HX := HXw2
 clear HXw2
 have HGI := lH_ BgI.out.lt
 have HGR := lH_ BgR.out.lt
 have HRW := lH_ (show w.heap.size ≤ gR by have := EgR.out; omega)
 obtain ⟨an7, han7⟩ : ∃ q, g.an.take 7 = q := ⟨_, rfl⟩
 have hlan7 : an7.length = min 7 g.an.length := by rw [← han7, List.length_take]
 have man7 : (if 7 < (g.an.length : Int) then 7 else (g.an.length : Int)) = (an7.length : Int) := by split <;> omega
 have HLan7 := lH_ (show an7.length ≤ 7 by omega)
 obtain ⟨pr5, hpr5⟩ : ∃ q, g.pr.take 45 = q := ⟨_, rfl⟩
 have hlpr5 : pr5.length = min 45 g.pr.length := by rw [← hpr5, List.length_take]
 have mpr5 : (if 45 < (g.pr.length : Int) then 45 else (g.pr.length : Int)) = (pr5.length : Int) := by split <;> omega
 have HLpr5 := lH_ (show pr5.length ≤ 45 by omega)
 have HAN := lH_ (show Kd.C kI3 w2 N2 an7.length an7 by rw [← han7]; exact C_cut (Kd.C_below HG.out.an HX.out) 7)
 have HPR := lH_ (show Kd.C kI2 w2 N4 pr5.length pr5 by rw [← hpr5]; exact C_cut (Kd.C_below HG.out.pr HX.out) 45)
 have HS1 := lH_ (cut_to (P := Try.prog) 23 25 .i64 (by kernel_rfl) (Option.isSome_iff_exists.1 (by kernel_rfl)).choose_spec N2 g.an.length n2 (an7.length : Int) (by omega) (by omega) HG.out.l2)
 have HS2 := lH_ (cut_to (P := Try.prog) 27 41 .i64 (by kernel_rfl) (Option.isSome_iff_exists.1 (by kernel_rfl)).choose_spec N4 g.pr.length n4 (pr5.length : Int) (by omega) (by omega) HG.out.l4)
 simp only [Int.toNat_natCast] at HS1 HS2
 clear han7 hlan7 hpr5 hlpr5
 refine start_ (n := 25) (S := fun w' => True) (ds := []) #[false, false, false, false, false, false, false, false, false, false, false, false, false, false, false, false, false, false, false, false, false, false, false, false, false] (by kernel_rfl) rfl rfl trivial (fun hHeld => ?_)
 refine with_tabW oCu1.tab1 oCu1.bits1 (fun HT_ HW_ => ?_)
 have HB : Aside0 (Below w2.heap.size w2 w2.drew) := ⟨bdrew (Below.refl _ _)⟩
 have BI : Aside0 (Blk w2.drew gI #[.slice N1 g.ct.length n1, .slice N2 g.an.length n2, .int .i64 g.hang.a, .int .i64 g.hang.b, .int .i64 g.hang.c, .int .i64 g.adv, .slice N3 g.dl.length n3, .slice N4 g.pr.length n4] 29) := ⟨BgI.out.drew⟩
 have BR : Aside0 (Blk w2.drew gR #[.slice none 0 0, .slice none 0 0, .int .i64 0, .int .i64 0, .int .i64 0, .int .i64 0, .slice none 0 0, .slice none 0 0] 29) := ⟨BgR.out.drew⟩
 generalize hwd : w2.drew = w1' at *
 clear hwd
 refine inv_at [0, 1, 2, 3, 4, 5, 6, 7, 8, 9, 10, 11, 12, 13, 14, 15, 16, 17, 18, 19, 20, 21, 22, 23, 24] (fun a0_ b a w' => ∃ (g4 : Nat) (g13 : Nat) (Va : Option Addr) (ca : Nat) (Vp : Option Addr) (cp : Nat) (gO : Nat) (m4_ : Value) (m12_ : Value) (m13_ : Value) (m21_ : Value) (m22_ : Value) (m23_ : Value), a = putSel a0_ b [(0, 7, .pointer (some ⟨gI, 2, none⟩)), (1, 8, .agg #[.int .i64 g.hang.a, .int .i64 g.hang.b, .int .i64 g.hang.c]), (2, 9, .pointer (some ⟨gI, 5, none⟩)), (3, 10, .int .i64 g.adv), (4, 11, m4_), (5, 12, .pointer (some ⟨gI, 1, none⟩)), (6, 13, .slice N2 g.an.length n2), (7, 14, .pointer (some ⟨gI, 1, none⟩)), (8, 15, .slice N2 g.an.length n2), (9, 16, .int .i64 (g.an.length : Int)), (10, 17, .int .i64 (an7.length : Int)), (11, 18, .slice N2 an7.length n2), (12, 19, m12_), (13, 20, m13_), (14, 21, .pointer (some ⟨gI, 7, none⟩)), (15, 22, .slice N4 g.pr.length n4), (16, 23, .pointer (some ⟨gI, 7, none⟩)), (17, 24, .slice N4 g.pr.length n4), (18, 25, .int .i64 (g.pr.length : Int)), (19, 26, .int .i64 (pr5.length : Int)), (20, 27, .slice N4 pr5.length n4), (21, 28, m21_), (22, 29, m22_), (23, 3, m23_)] ∧ (Below w2.heap.size w2 w') ∧ (Blk w' gI #[.slice N1 g.ct.length n1, .slice N2 g.an.length n2, .int .i64 g.hang.a, .int .i64 g.hang.b, .int .i64 g.hang.c, .int .i64 g.adv, .slice N3 g.dl.length n3, .slice N4 g.pr.length n4] 29) ∧ (Blk w' gR #[.slice none 0 0, .slice none 0 0, .int .i64 0, .int .i64 0, .int .i64 0, .int .i64 0, .slice none 0 0, .slice none 0 0] 29) ∧ (b 4 = true → b 12 = false → Kd.R kI3 25 w' w2.heap.size (fun _ => True) (.slice (some ⟨g4, 0, none⟩) 0 0) []) ∧ (b 13 = true → b 21 = false → Kd.R kI2 41 w' w2.heap.size (fun _ => True) (.slice (some ⟨g13, 0, none⟩) 0 0) []) ∧ (b 12 = true → Kd.R kI3 25 w' w2.heap.size (fun _ => True) (.slice Va an7.length ca) an7) ∧ (b 21 = true → Kd.R kI2 41 w' w2.heap.size (fun _ => True) (.slice Vp pr5.length cp) pr5) ∧ (b 23 = true → b 24 = false → Blk w' gO #[.slice none 0 0, .slice none 0 0, .int .i64 0, .int .i64 0, .int .i64 0, .int .i64 0, .slice none 0 0, .slice none 0 0] 29) ∧ (b 23 = true → w2.heap.size ≤ gO) ∧ (b 24 = true → Blk w' gO #[.slice none 0 0, .slice Va an7.length ca, .int .i64 g.hang.a, .int .i64 g.hang.b, .int .i64 g.hang.c, .int .i64 g.adv, .slice none 0 0, .slice Vp pr5.length cp] 29) ∧ (b 4 = true → (m4_ : Value) = .slice (some ⟨g4, 0, none⟩) 0 0) ∧ (b 12 = true → (m12_ : Value) = .slice Va an7.length ca) ∧ (b 13 = true → (m13_ : Value) = .slice (some ⟨g13, 0, none⟩) 0 0) ∧ (b 21 = true → (m21_ : Value) = .slice Vp pr5.length cp) ∧ (b 22 = true → (m22_ : Value) = .agg #[.slice none 0 0, .slice Va an7.length ca, .int .i64 g.hang.a, .int .i64 g.hang.b, .int .i64 g.hang.c, .int .i64 g.adv, .slice none 0 0, .slice Vp pr5.length cp]) ∧ (b 23 = true → (m23_ : Value) = .pointer (some ⟨gO, 0, none⟩))) HT_.out HW_.out (by kernel_rfl) (by kernel_rfl) ?_ ?_ ?_
 ·exact ⟨0, 0, none, 0, none, 0, 0, .bool false, .bool false, .bool false, .bool false, .bool false, .bool false, by simp only [putSel, Bool.false_eq_true, if_false], HB.out, BI.out, BR.out, fun h_ => absurd h_ (by decide), fun h_ => absurd h_ (by decide), fun h_ => absurd h_ (by decide), fun h_ => absurd h_ (by decide), fun h_ => absurd h_ (by decide), fun h_ => absurd h_ (by decide), fun h_ => absurd h_ (by decide), fun h_ => absurd h_ (by decide), fun h_ => absurd h_ (by decide), fun h_ => absurd h_ (by decide), fun h_ => absurd h_ (by decide), fun h_ => absurd h_ (by decide), fun h_ => absurd h_ (by decide)⟩
 ·skip
  clear BI BR HB
  refine steps_cons ?_ ?_
  ·rintro b a w' ⟨g4, g13, Va, ca, Vp, cp, gO, m4_, m12_, m13_, m21_, m22_, m23_, ha, QHB, QBI, QBR, QE1, QE2, QRA, QRP, QNO, QLgO, QFO, QX4_, QX12_, QX13_, QX21_, QX22_, QX23_⟩ hb_ hon hoff
   refine ⟨_, rfl, fun K hK => ?_⟩
   have e1 : a.tmps[1]? = some (.pointer (some ⟨gI, 0, none⟩)) := by rw [ha]; exact (putSel_off rfl).trans rfl
   replace ha := aM_ ha
   have HB := aM_ QHB
   have BI := aM_ QBI
   have BR := aM_ QBR
   refine value_ (w1 := w') (v := .pointer (some ⟨gI, 2, none⟩)) (by rfl) rfl ?_ ?_
   ·go_simp
    (try simp only [i64_w])
    try rfl
    try assumption
   refine hK.out _ _ ⟨g4, g13, Va, ca, Vp, cp, gO, m4_, m12_, m13_, m21_, m22_, m23_, (by rw [ha.out]; exact putSel_upk 0 hb_ rfl rfl rfl), QHB, QBI, QBR, QE1, QE2, QRA, QRP, QNO, QLgO, dD_ (hoff 24 rfl), QX4_, QX12_, QX13_, QX21_, dD_ (hoff 22 rfl), QX23_⟩
  refine steps_cons ?_ ?_
  ·rintro b a w' ⟨g4, g13, Va, ca, Vp, cp, gO, m4_, m12_, m13_, m21_, m22_, m23_, ha, QHB, QBI, QBR, QE1, QE2, QRA, QRP, QNO, QLgO, QFO, QX4_, QX12_, QX13_, QX21_, QX22_, QX23_⟩ hb_ hon hoff
   refine ⟨_, rfl, fun K hK => ?_⟩
   have e7 : a.tmps[7]? = some (.pointer (some ⟨gI, 2, none⟩)) := by rw [ha]; exact putSel_on (e := (0, 7, .pointer (some ⟨gI, 2, none⟩))) 0 rfl rfl (hon 0 rfl) rfl
   replace ha := aM_ ha
   have HB := aM_ QHB
   have BI := aM_ QBI
   have BR := aM_ QBR
   have z2 := BI.out.cell 2
   have z3 := BI.out.cell 3
   have z4 := BI.out.cell 4
   refine value_ (w1 := w') (v := .agg #[.int .i64 g.hang.a, .int .i64 g.hang.b, .int .i64 g.hang.c]) (by rfl) rfl ?_ ?_
   ·go_simp
    (try simp only [i64_w])
    try rfl
    try assumption
   refine hK.out _ _ ⟨g4, g13, Va, ca, Vp, cp, gO, m4_, m12_, m13_, m21_, m22_, m23_, (by rw [ha.out]; exact putSel_upk 1 hb_ rfl rfl rfl), QHB, QBI, QBR, QE1, QE2, QRA, QRP, QNO, QLgO, dD_ (hoff 24 rfl), QX4_, QX12_, QX13_, QX21_, dD_ (hoff 22 rfl), QX23_⟩
  refine steps_cons ?_ ?_
  ·rintro b a w' ⟨g4, g13, Va, ca, Vp, cp, gO, m4_, m12_, m13_, m21_, m22_, m23_, ha, QHB, QBI, QBR, QE1, QE2, QRA, QRP, QNO, QLgO, QFO, QX4_, QX12_, QX13_, QX21_, QX22_, QX23_⟩ hb_ hon hoff
   refine ⟨_, rfl, fun K hK => ?_⟩
   have e1 : a.tmps[1]? = some (.pointer (some ⟨gI, 0, none⟩)) := by rw [ha]; exact (putSel_off rfl).trans rfl
   replace ha := aM_ ha
   have HB := aM_ QHB
   have BI := aM_ QBI
   have BR := aM_ QBR
   refine value_ (w1 := w') (v := .pointer (some ⟨gI, 5, none⟩)) (by rfl) rfl ?_ ?_
   ·go_simp
    (try simp only [i64_w])
    try rfl
    try assumption
   refine hK.out _ _ ⟨g4, g13, Va, ca, Vp, cp, gO, m4_, m12_, m13_, m21_, m22_, m23_, (by rw [ha.out]; exact putSel_upk 2 hb_ rfl rfl rfl), QHB, QBI, QBR, QE1, QE2, QRA, QRP, QNO, QLgO, dD_ (hoff 24 rfl), QX4_, QX12_, QX13_, QX21_, dD_ (hoff 22 rfl), QX23_⟩
  refine steps_cons ?_ ?_
  ·rintro b a w' ⟨g4, g13, Va, ca, Vp, cp, gO, m4_, m12_, m13_, m21_, m22_, m23_, ha, QHB, QBI, QBR, QE1, QE2, QRA, QRP, QNO, QLgO, QFO, QX4_, QX12_, QX13_, QX21_, QX22_, QX23_⟩ hb_ hon hoff
   refine ⟨_, rfl, fun K hK => ?_⟩
   have e9 : a.tmps[9]? = some (.pointer (some ⟨gI, 5, none⟩)) := by rw [ha]; exact putSel_on (e := (2, 9, .pointer (some ⟨gI, 5, none⟩))) 2 rfl rfl (hon 2 rfl) rfl
   replace ha := aM_ ha
   have HB := aM_ QHB
   have BI := aM_ QBI
   have BR := aM_ QBR
   have z5 := BI.out.cell 5
   refine value_ (w1 := w') (v := .int .i64 g.adv) (by rfl) rfl ?_ ?_
   ·go_simp
    (try simp only [i64_w])
    try rfl
    try assumption
   refine hK.out _ _ ⟨g4, g13, Va, ca, Vp, cp, gO, m4_, m12_, m13_, m21_, m22_, m23_, (by rw [ha.out]; exact putSel_upk 3 hb_ rfl rfl rfl), QHB, QBI, QBR, QE1, QE2, QRA, QRP, QNO, QLgO, dD_ (hoff 24 rfl), QX4_, QX12_, QX13_, QX21_, dD_ (hoff 22 rfl), QX23_⟩
  refine steps_cons ?_ ?_
  ·rintro b a w' ⟨g4, g13, Va, ca, Vp, cp, gO, m4_, m12_, m13_, m21_, m22_, m23_, ha, QHB, QBI, QBR, QE1, QE2, QRA, QRP, QNO, QLgO, QFO, QX4_, QX12_, QX13_, QX21_, QX22_, QX23_⟩ hb_ hon hoff
   refine ⟨_, rfl, fun K hK => ?_⟩
   replace ha := aM_ ha
   have HB := aM_ QHB
   have BI := aM_ QBI
   have BR := aM_ QBR
   refine value_ (w1 := w'.alloc (.cells #[] 25)) (v := .slice (some ⟨w'.heap.size, 0, none⟩) 0 0) (by rfl) rfl ?_ ?_
   ·go_simp
   refine hK.out _ _ ⟨w'.heap.size, g13, Va, ca, Vp, cp, gO, (.slice (some ⟨w'.heap.size, 0, none⟩) 0 0), m12_, m13_, m21_, m22_, m23_, (by rw [ha.out]; exact putSel_upk 4 hb_ rfl rfl rfl), bthen' HB.out (below_alloc (Below.refl _ w') _), BI.out.alloc _, BR.out.alloc _, fun _ _ => R_empty kI3 25 HB.out.size, fun h0_ h1_ => Kd.R_below (QE2 h0_ h1_) (below_alloc (Below.refl _ w') _), dD_ (hoff 12 rfl), dD_ (hoff 21 rfl), fun h0_ h1_ => (QNO h0_ h1_).alloc _, QLgO, dD_ (hoff 24 rfl), fun _ => rfl, dD_ (hoff 12 rfl), QX13_, dD_ (hoff 21 rfl), dD_ (hoff 22 rfl), QX23_⟩
  refine steps_cons ?_ ?_
  ·rintro b a w' ⟨g4, g13, Va, ca, Vp, cp, gO, m4_, m12_, m13_, m21_, m22_, m23_, ha, QHB, QBI, QBR, QE1, QE2, QRA, QRP, QNO, QLgO, QFO, QX4_, QX12_, QX13_, QX21_, QX22_, QX23_⟩ hb_ hon hoff
   refine ⟨_, rfl, fun K hK => ?_⟩
   have e1 : a.tmps[1]? = some (.pointer (some ⟨gI, 0, none⟩)) := by rw [ha]; exact (putSel_off rfl).trans rfl
   replace ha := aM_ ha
   have HB := aM_ QHB
   have BI := aM_ QBI
   have BR := aM_ QBR
   refine value_ (w1 := w') (v := .pointer (some ⟨gI, 1, none⟩)) (by rfl) rfl ?_ ?_
   ·go_simp
    (try simp only [i64_w])
    try rfl
    try assumption
   refine hK.out _ _ ⟨g4, g13, Va, ca, Vp, cp, gO, m4_, m12_, m13_, m21_, m22_, m23_, (by rw [ha.out]; exact putSel_upk 5 hb_ rfl rfl rfl), QHB, QBI, QBR, QE1, QE2, dD_ (hoff 12 rfl), dD_ (hoff 21 rfl), QNO, QLgO, dD_ (hoff 24 rfl), QX4_, dD_ (hoff 12 rfl), QX13_, dD_ (hoff 21 rfl), dD_ (hoff 22 rfl), QX23_⟩
  refine steps_cons ?_ ?_
  ·rintro b a w' ⟨g4, g13, Va, ca, Vp, cp, gO, m4_, m12_, m13_, m21_, m22_, m23_, ha, QHB, QBI, QBR, QE1, QE2, QRA, QRP, QNO, QLgO, QFO, QX4_, QX12_, QX13_, QX21_, QX22_, QX23_⟩ hb_ hon hoff
   refine ⟨_, rfl, fun K hK => ?_⟩
   have e12 : a.tmps[12]? = some (.pointer (some ⟨gI, 1, none⟩)) := by rw [ha]; exact putSel_on (e := (5, 12, .pointer (some ⟨gI, 1, none⟩))) 5 rfl rfl (hon 5 rfl) rfl
   replace ha := aM_ ha
   have HB := aM_ QHB
   have BI := aM_ QBI
   have BR := aM_ QBR
   have z1 := BI.out.cell 1
   refine value_ (w1 := w') (v := .slice N2 g.an.length n2) (by rfl) rfl ?_ ?_
   ·go_simp
    (try simp only [i64_w])
    try rfl
    try assumption
   refine hK.out _ _ ⟨g4, g13, Va, ca, Vp, cp, gO, m4_, m12_, m13_, m21_, m22_, m23_, (by rw [ha.out]; exact putSel_upk 6 hb_ rfl rfl rfl), QHB, QBI, QBR, QE1, QE2, dD_ (hoff 12 rfl), dD_ (hoff 21 rfl), QNO, QLgO, dD_ (hoff 24 rfl), QX4_, dD_ (hoff 12 rfl), QX13_, dD_ (hoff 21 rfl), dD_ (hoff 22 rfl), QX23_⟩
  refine steps_cons ?_ ?_
  ·rintro b a w' ⟨g4, g13, Va, ca, Vp, cp, gO, m4_, m12_, m13_, m21_, m22_, m23_, ha, QHB, QBI, QBR, QE1, QE2, QRA, QRP, QNO, QLgO, QFO, QX4_, QX12_, QX13_, QX21_, QX22_, QX23_⟩ hb_ hon hoff
   refine ⟨_, rfl, fun K hK => ?_⟩
   have e1 : a.tmps[1]? = some (.pointer (some ⟨gI, 0, none⟩)) := by rw [ha]; exact (putSel_off rfl).trans rfl
   replace ha := aM_ ha
   have HB := aM_ QHB
   have BI := aM_ QBI
   have BR := aM_ QBR
   refine value_ (w1 := w') (v := .pointer (some ⟨gI, 1, none⟩)) (by rfl) rfl ?_ ?_
   ·go_simp
    (try simp only [i64_w])
    try rfl
    try assumption
   refine hK.out _ _ ⟨g4, g13, Va, ca, Vp, cp, gO, m4_, m12_, m13_, m21_, m22_, m23_, (by rw [ha.out]; exact putSel_upk 7 hb_ rfl rfl rfl), QHB, QBI, QBR, QE1, QE2, dD_ (hoff 12 rfl), dD_ (hoff 21 rfl), QNO, QLgO, dD_ (hoff 24 rfl), QX4_, dD_ (hoff 12 rfl), QX13_, dD_ (hoff 21 rfl), dD_ (hoff 22 rfl), QX23_⟩
  refine steps_cons ?_ ?_
  ·rintro b a w' ⟨g4, g13, Va, ca, Vp, cp, gO, m4_, m12_, m13_, m21_, m22_, m23_, ha, QHB, QBI, QBR, QE1, QE2, QRA, QRP, QNO, QLgO, QFO, QX4_, QX12_, QX13_, QX21_, QX22_, QX23_⟩ hb_ hon hoff
   refine ⟨_, rfl, fun K hK => ?_⟩
   have e14 : a.tmps[14]? = some (.pointer (some ⟨gI, 1, none⟩)) := by rw [ha]; exact putSel_on (e := (7, 14, .pointer (some ⟨gI, 1, none⟩))) 7 rfl rfl (hon 7 rfl) rfl
   replace ha := aM_ ha
   have HB := aM_ QHB
   have BI := aM_ QBI
   have BR := aM_ QBR
   have z1 := BI.out.cell 1
   refine value_ (w1 := w') (v := .slice N2 g.an.length n2) (by rfl) rfl ?_ ?_
   ·go_simp
    (try simp only [i64_w])
    try rfl
    try assumption
   refine hK.out _ _ ⟨g4, g13, Va, ca, Vp, cp, gO, m4_, m12_, m13_, m21_, m22_, m23_, (by rw [ha.out]; exact putSel_upk 8 hb_ rfl rfl rfl), QHB, QBI, QBR, QE1, QE2, dD_ (hoff 12 rfl), dD_ (hoff 21 rfl), QNO, QLgO, dD_ (hoff 24 rfl), QX4_, dD_ (hoff 12 rfl), QX13_, dD_ (hoff 21 rfl), dD_ (hoff 22 rfl), QX23_⟩
  refine steps_cons ?_ ?_
  ·rintro b a w' ⟨g4, g13, Va, ca, Vp, cp, gO, m4_, m12_, m13_, m21_, m22_, m23_, ha, QHB, QBI, QBR, QE1, QE2, QRA, QRP, QNO, QLgO, QFO, QX4_, QX12_, QX13_, QX21_, QX22_, QX23_⟩ hb_ hon hoff
   refine ⟨_, rfl, fun K hK => ?_⟩
   have e15 : a.tmps[15]? = some (.slice N2 g.an.length n2) := by rw [ha]; exact putSel_on (e := (8, 15, .slice N2 g.an.length n2)) 8 rfl rfl (hon 8 rfl) rfl
   replace ha := aM_ ha
   have HB := aM_ QHB
   have BI := aM_ QBI
   have BR := aM_ QBR
   refine value_ (w1 := w') (v := .int .i64 (g.an.length : Int)) (by rfl) rfl ?_ ?_
   ·go_simp
    (try simp only [i64_w])
    try rfl
    try assumption
   refine hK.out _ _ ⟨g4, g13, Va, ca, Vp, cp, gO, m4_, m12_, m13_, m21_, m22_, m23_, (by rw [ha.out]; exact putSel_upk 9 hb_ rfl rfl rfl), QHB, QBI, QBR, QE1, QE2, dD_ (hoff 12 rfl), dD_ (hoff 21 rfl), QNO, QLgO, dD_ (hoff 24 rfl), QX4_, dD_ (hoff 12 rfl), QX13_, dD_ (hoff 21 rfl), dD_ (hoff 22 rfl), QX23_⟩
  refine steps_cons ?_ ?_
  ·rintro b a w' ⟨g4, g13, Va, ca, Vp, cp, gO, m4_, m12_, m13_, m21_, m22_, m23_, ha, QHB, QBI, QBR, QE1, QE2, QRA, QRP, QNO, QLgO, QFO, QX4_, QX12_, QX13_, QX21_, QX22_, QX23_⟩ hb_ hon hoff
   refine ⟨_, rfl, fun K hK => ?_⟩
   have e16 : a.tmps[16]? = some (.int .i64 (g.an.length : Int)) := by rw [ha]; exact putSel_on (e := (9, 16, .int .i64 (g.an.length : Int))) 9 rfl rfl (hon 9 rfl) rfl
   replace ha := aM_ ha
   have HB := aM_ QHB
   have BI := aM_ QBI
   have BR := aM_ QBR
   refine value_ (w1 := w') (v := .int .i64 (an7.length : Int)) (by rfl) rfl ?_ ?_
   ·go_simp
    (try simp only [i64_w])
    try rfl
    try assumption
   refine hK.out _ _ ⟨g4, g13, Va, ca, Vp, cp, gO, m4_, m12_, m13_, m21_, m22_, m23_, (by rw [ha.out]; exact putSel_upk 10 hb_ rfl rfl rfl), QHB, QBI, QBR, QE1, QE2, dD_ (hoff 12 rfl), dD_ (hoff 21 rfl), QNO, QLgO, dD_ (hoff 24 rfl), QX4_, dD_ (hoff 12 rfl), QX13_, dD_ (hoff 21 rfl), dD_ (hoff 22 rfl), QX23_⟩
  refine steps_cons ?_ ?_
  ·rintro b a w' ⟨g4, g13, Va, ca, Vp, cp, gO, m4_, m12_, m13_, m21_, m22_, m23_, ha, QHB, QBI, QBR, QE1, QE2, QRA, QRP, QNO, QLgO, QFO, QX4_, QX12_, QX13_, QX21_, QX22_, QX23_⟩ hb_ hon hoff
   refine ⟨_, rfl, fun K hK => ?_⟩
   have e13 : a.tmps[13]? = some (.slice N2 g.an.length n2) := by rw [ha]; exact putSel_on (e := (6, 13, .slice N2 g.an.length n2)) 6 rfl rfl (hon 6 rfl) rfl
   have e17 : a.tmps[17]? = some (.int .i64 (an7.length : Int)) := by rw [ha]; exact putSel_on (e := (10, 17, .int .i64 (an7.length : Int))) 10 rfl rfl (hon 10 rfl) rfl
   replace ha := aM_ ha
   have HB := aM_ QHB
   have BI := aM_ QBI
   have BR := aM_ QBR
   have hs := HS1.out
   refine value_ (w1 := w') (v := .slice N2 an7.length n2) (by rfl) rfl ?_ ?_
   ·go_simp
    (try simp only [i64_w])
    try rfl
    try assumption
   refine hK.out _ _ ⟨g4, g13, Va, ca, Vp, cp, gO, m4_, m12_, m13_, m21_, m22_, m23_, (by rw [ha.out]; exact putSel_upk 11 hb_ rfl rfl rfl), QHB, QBI, QBR, QE1, QE2, dD_ (hoff 12 rfl), dD_ (hoff 21 rfl), QNO, QLgO, dD_ (hoff 24 rfl), QX4_, dD_ (hoff 12 rfl), QX13_, dD_ (hoff 21 rfl), dD_ (hoff 22 rfl), QX23_⟩
  refine steps_cons ?_ ?_
  ·rintro b a w' ⟨g4, g13, Va, ca, Vp, cp, gO, m4_, m12_, m13_, m21_, m22_, m23_, ha, QHB, QBI, QBR, QE1, QE2, QRA, QRP, QNO, QLgO, QFO, QX4_, QX12_, QX13_, QX21_, QX22_, QX23_⟩ hb_ hon hoff
   refine ⟨_, rfl, fun K hK => ?_⟩
   have e11 : a.tmps[11]? = some (m4_) := by rw [ha]; exact putSel_on (e := (4, 11, m4_)) 4 rfl rfl (hon 4 rfl) rfl
   rw [QX4_ (hon 4 rfl)] at e11
   have e18 : a.tmps[18]? = some (.slice N2 an7.length n2) := by rw [ha]; exact putSel_on (e := (11, 18, .slice N2 an7.length n2)) 11 rfl rfl (hon 11 rfl) rfl
   replace ha := aM_ ha
   have HB := aM_ QHB
   have BI := aM_ QBI
   have BR := aM_ QBR
   have E1 := aM_ (QE1 (hon 4 rfl) hb_)
   obtain ⟨vv, w2, hr, o1, o2, o3⟩ := append_all 23 25 _ 24 (by kernel_rfl) infoAn rfl (by decide) (by omega) (fun h => h) E1.out HB.out HB.out.size N2 n2 (Kd.C_below HAN.out HB.out) (by have := HLan7.out; simp only [List.length_nil]; omega)
   rw [List.nil_append] at o1
   obtain ⟨vA, vc, rfl⟩ := Kd.R_slice o1
   refine value_ (w1 := w2) (v := .slice vA an7.length vc) (by rfl) rfl ?_ ?_
   ·exact run_append_opU (by rfl) e11 e18 hr
   refine hK.out _ _ ⟨g4, g13, vA, vc, Vp, cp, gO, m4_, (.slice vA an7.length vc), m13_, m21_, m22_, m23_, (by rw [ha.out]; exact putSel_upk 12 hb_ rfl rfl rfl), o2, (o3.block gI BI.out.lt (Kd.R_ne E1.out BI.out (by decide))).trans BI.out, (o3.block gR BR.out.lt (Kd.R_ne E1.out BR.out (by decide))).trans BR.out, fun _ => dE_ (up_self b 12), fun h0_ h1_ => R_grown_types (QE2 h0_ h1_) E1.out (by decide) o3, fun _ => o1, dD_ (hoff 21 rfl), fun h0_ h1_ => (o3.block gO (QNO h0_ h1_).lt (Kd.R_ne E1.out (QNO h0_ h1_) (by decide))).trans (QNO h0_ h1_), QLgO, dD_ (hoff 24 rfl), QX4_, fun _ => rfl, QX13_, dD_ (hoff 21 rfl), dD_ (hoff 22 rfl), QX23_⟩
  refine steps_cons ?_ ?_
  ·rintro b a w' ⟨g4, g13, Va, ca, Vp, cp, gO, m4_, m12_, m13_, m21_, m22_, m23_, ha, QHB, QBI, QBR, QE1, QE2, QRA, QRP, QNO, QLgO, QFO, QX4_, QX12_, QX13_, QX21_, QX22_, QX23_⟩ hb_ hon hoff
   refine ⟨_, rfl, fun K hK => ?_⟩
   replace ha := aM_ ha
   have HB := aM_ QHB
   have BI := aM_ QBI
   have BR := aM_ QBR
   refine value_ (w1 := w'.alloc (.cells #[] 41)) (v := .slice (some ⟨w'.heap.size, 0, none⟩) 0 0) (by rfl) rfl ?_ ?_
   ·go_simp
   refine hK.out _ _ ⟨g4, w'.heap.size, Va, ca, Vp, cp, gO, m4_, m12_, (.slice (some ⟨w'.heap.size, 0, none⟩) 0 0), m21_, m22_, m23_, (by rw [ha.out]; exact putSel_upk 13 hb_ rfl rfl rfl), bthen' HB.out (below_alloc (Below.refl _ w') _), BI.out.alloc _, BR.out.alloc _, fun h0_ h1_ => Kd.R_below (QE1 h0_ h1_) (below_alloc (Below.refl _ w') _), fun _ _ => R_empty kI2 41 HB.out.size, fun h0_ => Kd.R_below (QRA h0_) (below_alloc (Below.refl _ w') _), dD_ (hoff 21 rfl), fun h0_ h1_ => (QNO h0_ h1_).alloc _, QLgO, dD_ (hoff 24 rfl), QX4_, QX12_, fun _ => rfl, dD_ (hoff 21 rfl), dD_ (hoff 22 rfl), QX23_⟩
  refine steps_cons ?_ ?_
  ·rintro b a w' ⟨g4, g13, Va, ca, Vp, cp, gO, m4_, m12_, m13_, m21_, m22_, m23_, ha, QHB, QBI, QBR, QE1, QE2, QRA, QRP, QNO, QLgO, QFO, QX4_, QX12_, QX13_, QX21_, QX22_, QX23_⟩ hb_ hon hoff
   refine ⟨_, rfl, fun K hK => ?_⟩
   have e1 : a.tmps[1]? = some (.pointer (some ⟨gI, 0, none⟩)) := by rw [ha]; exact (putSel_off rfl).trans rfl
   replace ha := aM_ ha
   have HB := aM_ QHB
   have BI := aM_ QBI
   have BR := aM_ QBR
   refine value_ (w1 := w') (v := .pointer (some ⟨gI, 7, none⟩)) (by rfl) rfl ?_ ?_
   ·go_simp
    (try simp only [i64_w])
    try rfl
    try assumption
   refine hK.out _ _ ⟨g4, g13, Va, ca, Vp, cp, gO, m4_, m12_, m13_, m21_, m22_, m23_, (by rw [ha.out]; exact putSel_upk 14 hb_ rfl rfl rfl), QHB, QBI, QBR, QE1, QE2, QRA, dD_ (hoff 21 rfl), QNO, QLgO, dD_ (hoff 24 rfl), QX4_, QX12_, QX13_, dD_ (hoff 21 rfl), dD_ (hoff 22 rfl), QX23_⟩
  refine steps_cons ?_ ?_
  ·rintro b a w' ⟨g4, g13, Va, ca, Vp, cp, gO, m4_, m12_, m13_, m21_, m22_, m23_, ha, QHB, QBI, QBR, QE1, QE2, QRA, QRP, QNO, QLgO, QFO, QX4_, QX12_, QX13_, QX21_, QX22_, QX23_⟩ hb_ hon hoff
   refine ⟨_, rfl, fun K hK => ?_⟩
   have e21 : a.tmps[21]? = some (.pointer (some ⟨gI, 7, none⟩)) := by rw [ha]; exact putSel_on (e := (14, 21, .pointer (some ⟨gI, 7, none⟩))) 14 rfl rfl (hon 14 rfl) rfl
   replace ha := aM_ ha
   have HB := aM_ QHB
   have BI := aM_ QBI
   have BR := aM_ QBR
   have z7 := BI.out.cell 7
   refine value_ (w1 := w') (v := .slice N4 g.pr.length n4) (by rfl) rfl ?_ ?_
   ·go_simp
    (try simp only [i64_w])
    try rfl
    try assumption
   refine hK.out _ _ ⟨g4, g13, Va, ca, Vp, cp, gO, m4_, m12_, m13_, m21_, m22_, m23_, (by rw [ha.out]; exact putSel_upk 15 hb_ rfl rfl rfl), QHB, QBI, QBR, QE1, QE2, QRA, dD_ (hoff 21 rfl), QNO, QLgO, dD_ (hoff 24 rfl), QX4_, QX12_, QX13_, dD_ (hoff 21 rfl), dD_ (hoff 22 rfl), QX23_⟩
  refine steps_cons ?_ ?_
  ·rintro b a w' ⟨g4, g13, Va, ca, Vp, cp, gO, m4_, m12_, m13_, m21_, m22_, m23_, ha, QHB, QBI, QBR, QE1, QE2, QRA, QRP, QNO, QLgO, QFO, QX4_, QX12_, QX13_, QX21_, QX22_, QX23_⟩ hb_ hon hoff
   refine ⟨_, rfl, fun K hK => ?_⟩
   have e1 : a.tmps[1]? = some (.pointer (some ⟨gI, 0, none⟩)) := by rw [ha]; exact (putSel_off rfl).trans rfl
   replace ha := aM_ ha
   have HB := aM_ QHB
   have BI := aM_ QBI
   have BR := aM_ QBR
   refine value_ (w1 := w') (v := .pointer (some ⟨gI, 7, none⟩)) (by rfl) rfl ?_ ?_
   ·go_simp
    (try simp only [i64_w])
    try rfl
    try assumption
   refine hK.out _ _ ⟨g4, g13, Va, ca, Vp, cp, gO, m4_, m12_, m13_, m21_, m22_, m23_, (by rw [ha.out]; exact putSel_upk 16 hb_ rfl rfl rfl), QHB, QBI, QBR, QE1, QE2, QRA, dD_ (hoff 21 rfl), QNO, QLgO, dD_ (hoff 24 rfl), QX4_, QX12_, QX13_, dD_ (hoff 21 rfl), dD_ (hoff 22 rfl), QX23_⟩
  refine steps_cons ?_ ?_
  ·rintro b a w' ⟨g4, g13, Va, ca, Vp, cp, gO, m4_, m12_, m13_, m21_, m22_, m23_, ha, QHB, QBI, QBR, QE1, QE2, QRA, QRP, QNO, QLgO, QFO, QX4_, QX12_, QX13_, QX21_, QX22_, QX23_⟩ hb_ hon hoff
   refine ⟨_, rfl, fun K hK => ?_⟩
   have e23 : a.tmps[23]? = some (.pointer (some ⟨gI, 7, none⟩)) := by rw [ha]; exact putSel_on (e := (16, 23, .pointer (some ⟨gI, 7, none⟩))) 16 rfl rfl (hon 16 rfl) rfl
   replace ha := aM_ ha
   have HB := aM_ QHB
   have BI := aM_ QBI
   have BR := aM_ QBR
   have z7 := BI.out.cell 7
   refine value_ (w1 := w') (v := .slice N4 g.pr.length n4) (by rfl) rfl ?_ ?_
   ·go_simp
    (try simp only [i64_w])
    try rfl
    try assumption
   refine hK.out _ _ ⟨g4, g13, Va, ca, Vp, cp, gO, m4_, m12_, m13_, m21_, m22_, m23_, (by rw [ha.out]; exact putSel_upk 17 hb_ rfl rfl rfl), QHB, QBI, QBR, QE1, QE2, QRA, dD_ (hoff 21 rfl), QNO, QLgO, dD_ (hoff 24 rfl), QX4_, QX12_, QX13_, dD_ (hoff 21 rfl), dD_ (hoff 22 rfl), QX23_⟩
  refine steps_cons ?_ ?_
  ·rintro b a w' ⟨g4, g13, Va, ca, Vp, cp, gO, m4_, m12_, m13_, m21_, m22_, m23_, ha, QHB, QBI, QBR, QE1, QE2, QRA, QRP, QNO, QLgO, QFO, QX4_, QX12_, QX13_, QX21_, QX22_, QX23_⟩ hb_ hon hoff
   refine ⟨_, rfl, fun K hK => ?_⟩
   have e24 : a.tmps[24]? = some (.slice N4 g.pr.length n4) := by rw [ha]; exact putSel_on (e := (17, 24, .slice N4 g.pr.length n4)) 17 rfl rfl (hon 17 rfl) rfl
   replace ha := aM_ ha
   have HB := aM_ QHB
   have BI := aM_ QBI
   have BR := aM_ QBR
   refine value_ (w1 := w') (v := .int .i64 (g.pr.length : Int)) (by rfl) rfl ?_ ?_
   ·go_simp
    (try simp only [i64_w])
    try rfl
    try assumption
   refine hK.out _ _ ⟨g4, g13, Va, ca, Vp, cp, gO, m4_, m12_, m13_, m21_, m22_, m23_, (by rw [ha.out]; exact putSel_upk 18 hb_ rfl rfl rfl), QHB, QBI, QBR, QE1, QE2, QRA, dD_ (hoff 21 rfl), QNO, QLgO, dD_ (hoff 24 rfl), QX4_, QX12_, QX13_, dD_ (hoff 21 rfl), dD_ (hoff 22 rfl), QX23_⟩
  refine steps_cons ?_ ?_
  ·rintro b a w' ⟨g4, g13, Va, ca, Vp, cp, gO, m4_, m12_, m13_, m21_, m22_, m23_, ha, QHB, QBI, QBR, QE1, QE2, QRA, QRP, QNO, QLgO, QFO, QX4_, QX12_, QX13_, QX21_, QX22_, QX23_⟩ hb_ hon hoff
   refine ⟨_, rfl, fun K hK => ?_⟩
   have e25 : a.tmps[25]? = some (.int .i64 (g.pr.length : Int)) := by rw [ha]; exact putSel_on (e := (18, 25, .int .i64 (g.pr.length : Int))) 18 rfl rfl (hon 18 rfl) rfl
   replace ha := aM_ ha
   have HB := aM_ QHB
   have BI := aM_ QBI
   have BR := aM_ QBR
   refine value_ (w1 := w') (v := .int .i64 (pr5.length : Int)) (by rfl) rfl ?_ ?_
   ·go_simp
    (try simp only [i64_w])
    try rfl
    try assumption
   refine hK.out _ _ ⟨g4, g13, Va, ca, Vp, cp, gO, m4_, m12_, m13_, m21_, m22_, m23_, (by rw [ha.out]; exact putSel_upk 19 hb_ rfl rfl rfl), QHB, QBI, QBR, QE1, QE2, QRA, dD_ (hoff 21 rfl), QNO, QLgO, dD_ (hoff 24 rfl), QX4_, QX12_, QX13_, dD_ (hoff 21 rfl), dD_ (hoff 22 rfl), QX23_⟩
  refine steps_cons ?_ ?_
  ·rintro b a w' ⟨g4, g13, Va, ca, Vp, cp, gO, m4_, m12_, m13_, m21_, m22_, m23_, ha, QHB, QBI, QBR, QE1, QE2, QRA, QRP, QNO, QLgO, QFO, QX4_, QX12_, QX13_, QX21_, QX22_, QX23_⟩ hb_ hon hoff
   refine ⟨_, rfl, fun K hK => ?_⟩
   have e22 : a.tmps[22]? = some (.slice N4 g.pr.length n4) := by rw [ha]; exact putSel_on (e := (15, 22, .slice N4 g.pr.length n4)) 15 rfl rfl (hon 15 rfl) rfl
   have e26 : a.tmps[26]? = some (.int .i64 (pr5.length : Int)) := by rw [ha]; exact putSel_on (e := (19, 26, .int .i64 (pr5.length : Int))) 19 rfl rfl (hon 19 rfl) rfl
   replace ha := aM_ ha
   have HB := aM_ QHB
   have BI := aM_ QBI
   have BR := aM_ QBR
   have hs := HS2.out
   refine value_ (w1 := w') (v := .slice N4 pr5.length n4) (by rfl) rfl ?_ ?_
   ·go_simp
    (try simp only [i64_w])
    try rfl
    try assumption
   refine hK.out _ _ ⟨g4, g13, Va, ca, Vp, cp, gO, m4_, m12_, m13_, m21_, m22_, m23_, (by rw [ha.out]; exact putSel_upk 20 hb_ rfl rfl rfl), QHB, QBI, QBR, QE1, QE2, QRA, dD_ (hoff 21 rfl), QNO, QLgO, dD_ (hoff 24 rfl), QX4_, QX12_, QX13_, dD_ (hoff 21 rfl), dD_ (hoff 22 rfl), QX23_⟩
  refine steps_cons ?_ ?_
  ·rintro b a w' ⟨g4, g13, Va, ca, Vp, cp, gO, m4_, m12_, m13_, m21_, m22_, m23_, ha, QHB, QBI, QBR, QE1, QE2, QRA, QRP, QNO, QLgO, QFO, QX4_, QX12_, QX13_, QX21_, QX22_, QX23_⟩ hb_ hon hoff
   refine ⟨_, rfl, fun K hK => ?_⟩
   have e20 : a.tmps[20]? = some (m13_) := by rw [ha]; exact putSel_on (e := (13, 20, m13_)) 13 rfl rfl (hon 13 rfl) rfl
   rw [QX13_ (hon 13 rfl)] at e20
   have e27 : a.tmps[27]? = some (.slice N4 pr5.length n4) := by rw [ha]; exact putSel_on (e := (20, 27, .slice N4 pr5.length n4)) 20 rfl rfl (hon 20 rfl) rfl
   replace ha := aM_ ha
   have HB := aM_ QHB
   have BI := aM_ QBI
   have BR := aM_ QBR
   have E2 := aM_ (QE2 (hon 13 rfl) hb_)
   have RA := aM_ (QRA (hon 12 rfl))
   obtain ⟨vv, w2, hr, o1, o2, o3⟩ := append_all 27 41 _ 16 (by kernel_rfl) infoIns rfl (by decide) (by omega) (fun h => h) E2.out HB.out HB.out.size N4 n4 (Kd.C_below HPR.out HB.out) (by have := HLpr5.out; simp only [List.length_nil]; omega)
   rw [List.nil_append] at o1
   obtain ⟨vA, vc, rfl⟩ := Kd.R_slice o1
   refine value_ (w1 := w2) (v := .slice vA pr5.length vc) (by rfl) rfl ?_ ?_
   ·exact run_append_opU (by rfl) e20 e27 hr
   refine hK.out _ _ ⟨g4, g13, Va, ca, vA, vc, gO, m4_, m12_, m13_, (.slice vA pr5.length vc), m22_, m23_, (by rw [ha.out]; exact putSel_upk 21 hb_ rfl rfl rfl), o2, (o3.block gI BI.out.lt (Kd.R_ne E2.out BI.out (by decide))).trans BI.out, (o3.block gR BR.out.lt (Kd.R_ne E2.out BR.out (by decide))).trans BR.out, fun _ => dE_ (hon 12 rfl), fun _ => dE_ (up_self b 21), fun _ => R_grown_types RA.out E2.out (by decide) o3, fun _ => o1, fun h0_ h1_ => (o3.block gO (QNO h0_ h1_).lt (Kd.R_ne E2.out (QNO h0_ h1_) (by decide))).trans (QNO h0_ h1_), QLgO, dD_ (hoff 24 rfl), QX4_, QX12_, QX13_, fun _ => rfl, dD_ (hoff 22 rfl), QX23_⟩
  refine steps_cons ?_ ?_
  ·rintro b a w' ⟨g4, g13, Va, ca, Vp, cp, gO, m4_, m12_, m13_, m21_, m22_, m23_, ha, QHB, QBI, QBR, QE1, QE2, QRA, QRP, QNO, QLgO, QFO, QX4_, QX12_, QX13_, QX21_, QX22_, QX23_⟩ hb_ hon hoff
   refine ⟨_, rfl, fun K hK => ?_⟩
   have e8 : a.tmps[8]? = some (.agg #[.int .i64 g.hang.a, .int .i64 g.hang.b, .int .i64 g.hang.c]) := by rw [ha]; exact putSel_on (e := (1, 8, .agg #[.int .i64 g.hang.a, .int .i64 g.hang.b, .int .i64 g.hang.c])) 1 rfl rfl (hon 1 rfl) rfl
   have e10 : a.tmps[10]? = some (.int .i64 g.adv) := by rw [ha]; exact putSel_on (e := (3, 10, .int .i64 g.adv)) 3 rfl rfl (hon 3 rfl) rfl
   have e19 : a.tmps[19]? = some (m12_) := by rw [ha]; exact putSel_on (e := (12, 19, m12_)) 12 rfl rfl (hon 12 rfl) rfl
   rw [QX12_ (hon 12 rfl)] at e19
   have e28 : a.tmps[28]? = some (m21_) := by rw [ha]; exact putSel_on (e := (21, 28, m21_)) 21 rfl rfl (hon 21 rfl) rfl
   rw [QX21_ (hon 21 rfl)] at e28
   replace ha := aM_ ha
   have HB := aM_ QHB
   have BI := aM_ QBI
   have BR := aM_ QBR
   have RA := aM_ (QRA (hon 12 rfl))
   have RP := aM_ (QRP (hon 21 rfl))
   refine value_ (w1 := w') (v := .agg #[.slice none 0 0, .slice Va an7.length ca, .int .i64 g.hang.a, .int .i64 g.hang.b, .int .i64 g.hang.c, .int .i64 g.adv, .slice none 0 0, .slice Vp pr5.length cp]) (by rfl) rfl ?_ ?_
   ·go_simp
    (try simp only [i64_w])
    try rfl
    try assumption
   refine hK.out _ _ ⟨g4, g13, Va, ca, Vp, cp, gO, m4_, m12_, m13_, m21_, (.agg #[.slice none 0 0, .slice Va an7.length ca, .int .i64 g.hang.a, .int .i64 g.hang.b, .int .i64 g.hang.c, .int .i64 g.adv, .slice none 0 0, .slice Vp pr5.length cp]), m23_, (by rw [ha.out]; exact putSel_upk 22 hb_ rfl rfl rfl), QHB, QBI, QBR, fun _ => dE_ (hon 12 rfl), fun _ => dE_ (hon 21 rfl), QRA, QRP, QNO, QLgO, dD_ (hoff 24 rfl), QX4_, QX12_, QX13_, QX21_, fun _ => rfl, QX23_⟩
  refine steps_cons ?_ ?_
  ·rintro b a w' ⟨g4, g13, Va, ca, Vp, cp, gO, m4_, m12_, m13_, m21_, m22_, m23_, ha, QHB, QBI, QBR, QE1, QE2, QRA, QRP, QNO, QLgO, QFO, QX4_, QX12_, QX13_, QX21_, QX22_, QX23_⟩ hb_ hon hoff
   refine ⟨_, rfl, fun K hK => ?_⟩
   replace ha := aM_ ha
   have HB := aM_ QHB
   have BI := aM_ QBI
   have BR := aM_ QBR
   refine value_ (w1 := w'.alloc (.cells #[.slice none 0 0, .slice none 0 0, .int .i64 0, .int .i64 0, .int .i64 0, .int .i64 0, .slice none 0 0, .slice none 0 0] 29)) (v := .pointer (some ⟨w'.heap.size, 0, none⟩)) (by rfl) rfl ?_ ?_
   ·go_simp
   refine hK.out _ _ ⟨g4, g13, Va, ca, Vp, cp, w'.heap.size, m4_, m12_, m13_, m21_, m22_, (.pointer (some ⟨w'.heap.size, 0, none⟩)), (by rw [ha.out]; exact putSel_upk 23 hb_ rfl rfl rfl), bthen' HB.out (below_alloc (Below.refl _ w') _), BI.out.alloc _, BR.out.alloc _, fun h0_ h1_ => Kd.R_below (QE1 h0_ h1_) (below_alloc (Below.refl _ w') _), fun h0_ h1_ => Kd.R_below (QE2 h0_ h1_) (below_alloc (Below.refl _ w') _), fun h0_ => Kd.R_below (QRA h0_) (below_alloc (Below.refl _ w') _), fun h0_ => Kd.R_below (QRP h0_) (below_alloc (Below.refl _ w') _), fun _ _ => Blk.new w' _ _ rfl, fun _ => HB.out.size, dD_ (hoff 24 rfl), QX4_, QX12_, QX13_, QX21_, QX22_, fun _ => rfl⟩
  refine steps_cons ?_ ?_
  ·rintro b a w' ⟨g4, g13, Va, ca, Vp, cp, gO, m4_, m12_, m13_, m21_, m22_, m23_, ha, QHB, QBI, QBR, QE1, QE2, QRA, QRP, QNO, QLgO, QFO, QX4_, QX12_, QX13_, QX21_, QX22_, QX23_⟩ hb_ hon hoff
   refine ⟨_, rfl, fun K hK => ?_⟩
   have e3 : a.tmps[3]? = some (m23_) := by rw [ha]; exact putSel_on (e := (23, 3, m23_)) 23 rfl rfl (hon 23 rfl) rfl
   rw [QX23_ (hon 23 rfl)] at e3
   have e29 : a.tmps[29]? = some (m22_) := by rw [ha]; exact putSel_on (e := (22, 29, m22_)) 22 rfl rfl (hon 22 rfl) rfl
   rw [QX22_ (hon 22 rfl)] at e29
   replace ha := aM_ ha
   have HB := aM_ QHB
   have BI := aM_ QBI
   have BR := aM_ QBR
   have RA := aM_ (QRA (hon 12 rfl))
   have RP := aM_ (QRP (hon 21 rfl))
   have NO := aM_ (QNO (hon 23 rfl) hb_)
   have LgO := aM_ (QLgO (hon 23 rfl))
   have c0 := NO.out.cell 0
   have c1 := NO.out.cell 1
   have c2 := NO.out.cell 2
   have c3 := NO.out.cell 3
   have c4 := NO.out.cell 4
   have c5 := NO.out.cell 5
   have c6 := NO.out.cell 6
   have c7 := NO.out.cell 7
   simp only [gA_, gZ_, gS_] at c0 c1 c2 c3 c4 c5 c6 c7
   have f0 := NO.out.frozen 0
   have f1 := NO.out.frozen 1
   have f2 := NO.out.frozen 2
   have f3 := NO.out.frozen 3
   have f4 := NO.out.frozen 4
   have f5 := NO.out.frozen 5
   have f6 := NO.out.frozen 6
   have f7 := NO.out.frozen 7
   refine skip_ (w1 := ((((((((w'.setCell ⟨gO, 0, none⟩ (.slice none 0 0)).setCell ⟨gO, 1, none⟩ (.slice Va an7.length ca)).setCell ⟨gO, 2, none⟩ (.int .i64 g.hang.a)).setCell ⟨gO, 3, none⟩ (.int .i64 g.hang.b)).setCell ⟨gO, 4, none⟩ (.int .i64 g.hang.c)).setCell ⟨gO, 5, none⟩ (.int .i64 g.adv)).setCell ⟨gO, 6, none⟩ (.slice none 0 0)).setCell ⟨gO, 7, none⟩ (.slice Vp pr5.length cp))) (by rfl) rfl ?_ ?_
   ·go_simp
   refine hK.out _ _ ⟨g4, g13, Va, ca, Vp, cp, gO, m4_, m12_, m13_, m21_, m22_, m23_, (by rw [ha.out]; exact putSel_none (v := undef) rfl), (bset (bset (bset (bset (bset (bset (bset (bset HB.out LgO.out 0 (.slice none 0 0)) LgO.out 1 (.slice Va an7.length ca)) LgO.out 2 (.int .i64 g.hang.a)) LgO.out 3 (.int .i64 g.hang.b)) LgO.out 4 (.int .i64 g.hang.c)) LgO.out 5 (.int .i64 g.adv)) LgO.out 6 (.slice none 0 0)) LgO.out 7 (.slice Vp pr5.length cp)), ((((((((BI.out.far (by have := LgO.out; have := HGI.out; omega) 0 (.slice none 0 0)).far (by have := LgO.out; have := HGI.out; omega) 1 (.slice Va an7.length ca)).far (by have := LgO.out; have := HGI.out; omega) 2 (.int .i64 g.hang.a)).far (by have := LgO.out; have := HGI.out; omega) 3 (.int .i64 g.hang.b)).far (by have := LgO.out; have := HGI.out; omega) 4 (.int .i64 g.hang.c)).far (by have := LgO.out; have := HGI.out; omega) 5 (.int .i64 g.adv)).far (by have := LgO.out; have := HGI.out; omega) 6 (.slice none 0 0)).far (by have := LgO.out; have := HGI.out; omega) 7 (.slice Vp pr5.length cp)), ((((((((BR.out.far (by have := LgO.out; have := HGR.out; omega) 0 (.slice none 0 0)).far (by have := LgO.out; have := HGR.out; omega) 1 (.slice Va an7.length ca)).far (by have := LgO.out; have := HGR.out; omega) 2 (.int .i64 g.hang.a)).far (by have := LgO.out; have := HGR.out; omega) 3 (.int .i64 g.hang.b)).far (by have := LgO.out; have := HGR.out; omega) 4 (.int .i64 g.hang.c)).far (by have := LgO.out; have := HGR.out; omega) 5 (.int .i64 g.adv)).far (by have := LgO.out; have := HGR.out; omega) 6 (.slice none 0 0)).far (by have := LgO.out; have := HGR.out; omega) 7 (.slice Vp pr5.length cp)), fun _ => dE_ (hon 12 rfl), fun _ => dE_ (hon 21 rfl), fun _ => (Kd.R_set (Kd.R_set (Kd.R_set (Kd.R_set (Kd.R_set (Kd.R_set (Kd.R_set (Kd.R_set RA.out NO.out (by decide) 0 (.slice none 0 0)) (NO.out.set 0 (.slice none 0 0)) (by decide) 1 (.slice Va an7.length ca)) ((NO.out.set 0 (.slice none 0 0)).set 1 (.slice Va an7.length ca)) (by decide) 2 (.int .i64 g.hang.a)) (((NO.out.set 0 (.slice none 0 0)).set 1 (.slice Va an7.length ca)).set 2 (.int .i64 g.hang.a)) (by decide) 3 (.int .i64 g.hang.b)) ((((NO.out.set 0 (.slice none 0 0)).set 1 (.slice Va an7.length ca)).set 2 (.int .i64 g.hang.a)).set 3 (.int .i64 g.hang.b)) (by decide) 4 (.int .i64 g.hang.c)) (((((NO.out.set 0 (.slice none 0 0)).set 1 (.slice Va an7.length ca)).set 2 (.int .i64 g.hang.a)).set 3 (.int .i64 g.hang.b)).set 4 (.int .i64 g.hang.c)) (by decide) 5 (.int .i64 g.adv)) ((((((NO.out.set 0 (.slice none 0 0)).set 1 (.slice Va an7.length ca)).set 2 (.int .i64 g.hang.a)).set 3 (.int .i64 g.hang.b)).set 4 (.int .i64 g.hang.c)).set 5 (.int .i64 g.adv)) (by decide) 6 (.slice none 0 0)) (((((((NO.out.set 0 (.slice none 0 0)).set 1 (.slice Va an7.length ca)).set 2 (.int .i64 g.hang.a)).set 3 (.int .i64 g.hang.b)).set 4 (.int .i64 g.hang.c)).set 5 (.int .i64 g.adv)).set 6 (.slice none 0 0)) (by decide) 7 (.slice Vp pr5.length cp)), fun _ => (Kd.R_set (Kd.R_set (Kd.R_set (Kd.R_set (Kd.R_set (Kd.R_set (Kd.R_set (Kd.R_set RP.out NO.out (by decide) 0 (.slice none 0 0)) (NO.out.set 0 (.slice none 0 0)) (by decide) 1 (.slice Va an7.length ca)) ((NO.out.set 0 (.slice none 0 0)).set 1 (.slice Va an7.length ca)) (by decide) 2 (.int .i64 g.hang.a)) (((NO.out.set 0 (.slice none 0 0)).set 1 (.slice Va an7.length ca)).set 2 (.int .i64 g.hang.a)) (by decide) 3 (.int .i64 g.hang.b)) ((((NO.out.set 0 (.slice none 0 0)).set 1 (.slice Va an7.length ca)).set 2 (.int .i64 g.hang.a)).set 3 (.int .i64 g.hang.b)) (by decide) 4 (.int .i64 g.hang.c)) (((((NO.out.set 0 (.slice none 0 0)).set 1 (.slice Va an7.length ca)).set 2 (.int .i64 g.hang.a)).set 3 (.int .i64 g.hang.b)).set 4 (.int .i64 g.hang.c)) (by decide) 5 (.int .i64 g.adv)) ((((((NO.out.set 0 (.slice none 0 0)).set 1 (.slice Va an7.length ca)).set 2 (.int .i64 g.hang.a)).set 3 (.int .i64 g.hang.b)).set 4 (.int .i64 g.hang.c)).set 5 (.int .i64 g.adv)) (by decide) 6 (.slice none 0 0)) (((((((NO.out.set 0 (.slice none 0 0)).set 1 (.slice Va an7.length ca)).set 2 (.int .i64 g.hang.a)).set 3 (.int .i64 g.hang.b)).set 4 (.int .i64 g.hang.c)).set 5 (.int .i64 g.adv)).set 6 (.slice none 0 0)) (by decide) 7 (.slice Vp pr5.length cp)), fun _ => dE_ (up_self b 24), QLgO, fun _ => ((((((((NO.out.put 0 (.slice none 0 0) rfl).put 1 (.slice Va an7.length ca) rfl).put 2 (.int .i64 g.hang.a) rfl).put 3 (.int .i64 g.hang.b) rfl).put 4 (.int .i64 g.hang.c) rfl).put 5 (.int .i64 g.adv) rfl).put 6 (.slice none 0 0) rfl).put 7 (.slice Vp pr5.length cp) rfl), QX4_, QX12_, QX13_, QX21_, QX22_, QX23_⟩
  exact steps_nil
 ·rintro b a w' hall ⟨g4, g13, Va, ca, Vp, cp, gO, m4_, m12_, m13_, m21_, m22_, m23_, ha, QHB, QBI, QBR, QE1, QE2, QRA, QRP, QNO, QLgO, QFO, QX4_, QX12_, QX13_, QX21_, QX22_, QX23_⟩
  clear BI BR HB
  have hb0_ := hall 0 (by kernel_rfl)
  have hb1_ := hall 1 (by kernel_rfl)
  have hb2_ := hall 2 (by kernel_rfl)
  have hb3_ := hall 3 (by kernel_rfl)
  have hb4_ := hall 4 (by kernel_rfl)
  have hb5_ := hall 5 (by kernel_rfl)
  have hb6_ := hall 6 (by kernel_rfl)
  have hb7_ := hall 7 (by kernel_rfl)
  have hb8_ := hall 8 (by kernel_rfl)
  have hb9_ := hall 9 (by kernel_rfl)
  have hb10_ := hall 10 (by kernel_rfl)
  have hb11_ := hall 11 (by kernel_rfl)
  have hb12_ := hall 12 (by kernel_rfl)
  have hb13_ := hall 13 (by kernel_rfl)
  have hb14_ := hall 14 (by kernel_rfl)
  have hb15_ := hall 15 (by kernel_rfl)
  have hb16_ := hall 16 (by kernel_rfl)
  have hb17_ := hall 17 (by kernel_rfl)
  have hb18_ := hall 18 (by kernel_rfl)
  have hb19_ := hall 19 (by kernel_rfl)
  have hb20_ := hall 20 (by kernel_rfl)
  have hb21_ := hall 21 (by kernel_rfl)
  have hb22_ := hall 22 (by kernel_rfl)
  have hb23_ := hall 23 (by kernel_rfl)
  have hb24_ := hall 24 (by kernel_rfl)
  subst ha
  obtain rfl := QX4_ hb4_
  obtain rfl := QX12_ hb12_
  obtain rfl := QX13_ hb13_
  obtain rfl := QX21_ hb21_
  obtain rfl := QX22_ hb22_
  obtain rfl := QX23_ hb23_
  simp only [putSel, hb0_, hb1_, hb2_, hb3_, hb4_, hb5_, hb6_, hb7_, hb8_, hb9_, hb10_, hb11_, hb12_, hb13_, hb14_, hb15_, hb16_, hb17_, hb18_, hb19_, hb20_, hb21_, hb22_, hb23_, hb24_, if_true, Act.put, List.setIfInBounds_toArray, List.set_cons_zero, List.set_cons_succ]
  have HB := aM_ QHB
  clear QHB
  have BI := aM_ QBI
  clear QBI
  have BR := aM_ QBR
  clear QBR
  clear QE1
  clear QE2
  have RA := aM_ (QRA hb12_)
  clear QRA
  have RP := aM_ (QRP hb21_)
  clear QRP
  clear QNO
  have LgO := aM_ (QLgO hb23_)
  clear QLgO
  have FO := aM_ (QFO hb24_)
  clear QFO
  clear hall hb0_ hb1_ hb2_ hb3_ hb4_ hb5_ hb6_ hb7_ hb8_ hb9_ hb10_ hb11_ hb12_ hb13_ hb14_ hb15_ hb16_ hb17_ hb18_ hb19_ hb20_ hb21_ hb22_ hb23_ hb24_
  generalize w' = v3 at *
  have HRA := lH_ RA.out
  have HRP := lH_ RP.out
  have BgO := lH_ FO.out
  replace BgI := lH_ BI.out
  replace BgR := lH_ BR.out
  have HX2 := lH_ HB.out
  have HLO := lH_ LgO.out
  have HOI := lH_ (show gO ≠ gI ∧ gO ≠ gR by have := LgO.out; have := HGI.out; have := HGR.out; omega)
  clear RA RP FO BI BR HB LgO HW_ HT_ HS1 HS2 HAN HPR
  go_wp2_with fail
  go_loopw [4] (fun i wr => ∃ (k : Nat) (cts : List (List Pt)) (Vc : Option Addr) (cc : Nat), i = .int .i64 (k : Int) ∧ k ≤ g.ct.length ∧ k ≤ 7 ∧ Hid (cts.length = k) ∧ Hid (Kd.R kCt 71 wr w2.heap.size (fun _ => True) (.slice Vc cts.length cc) cts) ∧ Hid (Kd.R kI3 25 wr w2.heap.size (fun _ => True) (.slice Va an7.length ca) an7) ∧ Hid (Kd.R kI2 41 wr w2.heap.size (fun _ => True) (.slice Vp pr5.length cp) pr5) ∧ Hid (Blk wr gO #[.slice Vc cts.length cc, .slice Va an7.length ca, .int .i64 g.hang.a, .int .i64 g.hang.b, .int .i64 g.hang.c, .int .i64 g.adv, .slice none 0 0, .slice Vp pr5.length cp] 29) ∧ Hid (Blk wr gI #[.slice N1 g.ct.length n1, .slice N2 g.an.length n2, .int .i64 g.hang.a, .int .i64 g.hang.b, .int .i64 g.hang.c, .int .i64 g.adv, .slice N3 g.dl.length n3, .slice N4 g.pr.length n4] 29) ∧ Hid (Blk wr gR #[.slice none 0 0, .slice none 0 0, .int .i64 0, .int .i64 0, .int .i64 0, .int .i64 0, .slice none 0 0, .slice none 0 0] 29) ∧ Hid (Below w2.heap.size w2 wr)) (fun i _ => g.ct.length - (intOf i).toNat)
  case atStart => exact ⟨0, [], none, 0, rfl, Nat.zero_le _, Nat.zero_le _, lH_ rfl, lH_ (Kd.R_nil _ _ _ _ _), HRA, HRP, BgO, BgI, BgR, HX2⟩
  case round =>
   clear HRA HRP BgO BgI BgR HX2
   obtain ⟨k, cts, Vc, cc, rfl, hk, hk7, HCL, HRC, HRA, HRP, BgO, BgI, BgR, HX2⟩ := hrel
   have i0 := BgI.out.cell 0
   simp only [gA_, gZ_, gS_] at i0
   by_cases hlt : k < g.ct.length ∧ k < 7
   ·have d1 : decide (k < g.ct.length) = true := decide_eq_true hlt.1
    have d2 : decide ((k : Int) < (g.ct.length : Int)) = true := decide_eq_true (by omega)
    have d3 : decide (k < 7) = true := decide_eq_true hlt.2
    have d4 : decide ((k : Int) < 7) = true := decide_eq_true (by omega)
    have HKL := lH_ hlt
    have b0 : (0 : Int) ≤ (k : Int) := by omega
    have b1 : (k : Int) < (g.ct.length : Int) := by omega
    obtain ⟨a1, c0_, hA1, hK, p0⟩ := el1 (d := kCt) rfl (HG.out.below HX.out).ct [] k hlt.1
    obtain rfl : N1 = some a1 := hA1
    obtain ⟨Ai, ci, hcs, hcl, hM⟩ := kSl_open hK
    simp only [List.cons.injEq, and_true] at hcs
    subst hcs
    have hcm : (g.ct.getD k []).length ≤ 9223372036854775807 := hM.2.1
    generalize g.ct.getD k [] = c at *
    obtain ⟨c5, hc5⟩ : ∃ q, c.take 45 = q := ⟨_, rfl⟩
    have hlc5 : c5.length = min 45 c.length := by rw [← hc5, List.length_take]
    have mc5 : (if 45 < (c.length : Int) then 45 else (c.length : Int)) = (c5.length : Int) := by split <;> omega
    have HLc5 := lH_ (show c5.length ≤ 45 by omega)
    have HC5 := lH_ (show Kd.C kPt w2 Ai c5.length c5 by rw [← hc5]; exact C_cut hM 45)
    have HS1 := lH_ (cut_to (P := Try.prog) 71 73 .i64 (by kernel_rfl) (Option.isSome_iff_exists.1 (by kernel_rfl)).choose_spec Ai c.length ci (c5.length : Int) (by omega) (by omega) hcl)
    simp only [Int.toNat_natCast] at HS1
    clear hK hM hc5 hlc5 hlt
    go_upto_region 5 with fail
    refine start_ (n := 21) (S := fun w' => True) (ds := []) #[false, false, false, false, false, false, false, false, false, false, false, false, false, false, false, false, false, false, false, false, false] (by kernel_rfl) rfl rfl trivial (fun hHeld => ?_)
    refine with_tabW oCu5.tab5 oCu5.bits5 (fun HT_ HW_ => ?_)
    have HB : Aside0 (Below w2.heap.size w2 wr.drew) := ⟨bdrew HX2.out⟩
    have HZ : Aside0 (wr.heap.size ≤ wr.drew.heap.size) := ⟨Nat.le_refl _⟩
    have BO : Aside0 (Blk wr.drew gO #[.slice Vc cts.length cc, .slice Va an7.length ca, .int .i64 g.hang.a, .int .i64 g.hang.b, .int .i64 g.hang.c, .int .i64 g.adv, .slice none 0 0, .slice Vp pr5.length cp] 29) := ⟨BgO.out.drew⟩
    have BI : Aside0 (Blk wr.drew gI #[.slice (some a1) g.ct.length n1, .slice N2 g.an.length n2, .int .i64 g.hang.a, .int .i64 g.hang.b, .int .i64 g.hang.c, .int .i64 g.adv, .slice N3 g.dl.length n3, .slice N4 g.pr.length n4] 29) := ⟨BgI.out.drew⟩
    have BR : Aside0 (Blk wr.drew gR #[.slice none 0 0, .slice none 0 0, .int .i64 0, .int .i64 0, .int .i64 0, .int .i64 0, .slice none 0 0, .slice none 0 0] 29) := ⟨BgR.out.drew⟩
    have RA : Aside0 (Kd.R kI3 25 wr.drew w2.heap.size (fun _ => True) (.slice Va an7.length ca) an7) := ⟨Kd.R_below HRA.out (below_drew (Below.refl _ _))⟩
    have RP : Aside0 (Kd.R kI2 41 wr.drew w2.heap.size (fun _ => True) (.slice Vp pr5.length cp) pr5) := ⟨Kd.R_below HRP.out (below_drew (Below.refl _ _))⟩
    have RC : Aside0 (Kd.R kCt 71 wr.drew w2.heap.size (fun k_ => k_ < wr.heap.size) (.slice Vc cts.length cc) cts) := ⟨Kd.R_below (Kd.R_mono (Kd.R_bound HRC.out) (fun _ h_ => h_.2.2.1)) (below_drew (Below.refl _ _))⟩
    generalize hwd : wr.drew = w1' at *
    clear hwd
    refine inv_at [0, 1, 2, 3, 4, 5, 6, 7, 8, 9, 10, 11, 12, 13, 14, 15, 16, 17, 18, 19, 20] (fun a0_ b a w' => ∃ (g2 : Nat) (Ve : Option Addr) (ce : Nat) (gb : Nat) (Vn : Option Addr) (cn : Nat) (m2_ : Value) (m16_ : Value) (m17_ : Value) (m18_ : Value), a = putSel a0_ b [(0, 41, .pointer (some ⟨gO, 0, none⟩)), (1, 42, .slice Vc cts.length cc), (2, 43, m2_), (3, 44, .pointer (some ⟨gI, 0, none⟩)), (4, 45, .slice (some a1) g.ct.length n1), (5, 46, .int .i64 (k : Int)), (6, 47, .pointer (some (a1.add k))), (7, 48, .slice Ai c.length ci), (8, 49, .pointer (some ⟨gI, 0, none⟩)), (9, 50, .slice (some a1) g.ct.length n1), (10, 51, .int .i64 (k : Int)), (11, 52, .pointer (some (a1.add k))), (12, 53, .slice Ai c.length ci), (13, 54, .int .i64 (c.length : Int)), (14, 55, .int .i64 (c5.length : Int)), (15, 56, .slice Ai c5.length ci), (16, 57, m16_), (17, 58, m17_), (18, 59, m18_), (19, 60, .pointer (some ⟨gO, 0, none⟩))] ∧ (Below w2.heap.size w2 w') ∧ (wr.heap.size ≤ w'.heap.size) ∧ (b 20 = false → Blk w' gO #[.slice Vc cts.length cc, .slice Va an7.length ca, .int .i64 g.hang.a, .int .i64 g.hang.b, .int .i64 g.hang.c, .int .i64 g.adv, .slice none 0 0, .slice Vp pr5.length cp] 29) ∧ (Blk w' gI #[.slice (some a1) g.ct.length n1, .slice N2 g.an.length n2, .int .i64 g.hang.a, .int .i64 g.hang.b, .int .i64 g.hang.c, .int .i64 g.adv, .slice N3 g.dl.length n3, .slice N4 g.pr.length n4] 29) ∧ (Blk w' gR #[.slice none 0 0, .slice none 0 0, .int .i64 0, .int .i64 0, .int .i64 0, .int .i64 0, .slice none 0 0, .slice none 0 0] 29) ∧ (Kd.R kI3 25 w' w2.heap.size (fun _ => True) (.slice Va an7.length ca) an7) ∧ (Kd.R kI2 41 w' w2.heap.size (fun _ => True) (.slice Vp pr5.length cp) pr5) ∧ (b 18 = false → Kd.R kCt 71 w' w2.heap.size (fun k_ => k_ < wr.heap.size) (.slice Vc cts.length cc) cts) ∧ (b 2 = true → b 16 = false → Kd.R kPt 73 w' wr.heap.size (fun _ => True) (.slice (some ⟨g2, 0, none⟩) 0 0) []) ∧ (b 16 = true → b 18 = false → Kd.R kPt 73 w' wr.heap.size (fun _ => True) (.slice Ve c5.length ce) c5) ∧ (b 17 = true → b 18 = false → Blk w' gb #[.slice Ve c5.length ce] 71) ∧ (b 17 = true → w2.heap.size ≤ gb) ∧ (b 18 = true → Kd.R kCt 71 w' w2.heap.size (fun _ => True) (.slice Vn (cts ++ [c5]).length cn) (cts ++ [c5])) ∧ (b 20 = true → Blk w' gO #[.slice Vn (cts ++ [c5]).length cn, .slice Va an7.length ca, .int .i64 g.hang.a, .int .i64 g.hang.b, .int .i64 g.hang.c, .int .i64 g.adv, .slice none 0 0, .slice Vp pr5.length cp] 29) ∧ (b 2 = true → (m2_ : Value) = .slice (some ⟨g2, 0, none⟩) 0 0) ∧ (b 16 = true → (m16_ : Value) = .slice Ve c5.length ce) ∧ (b 17 = true → (m17_ : Value) = .slice (some ⟨gb, 0, none⟩) 1 1) ∧ (b 18 = true → (m18_ : Value) = .slice Vn (cts ++ [c5]).length cn)) HT_.out HW_.out (by kernel_rfl) (by kernel_rfl) ?_ ?_ ?_
    ·exact ⟨0, none, 0, 0, none, 0, .bool false, .bool false, .bool false, .bool false, by simp only [putSel, Bool.false_eq_true, if_false], HB.out, HZ.out, fun _ => BO.out, BI.out, BR.out, RA.out, RP.out, fun _ => RC.out, fun h_ => absurd h_ (by decide), fun h_ => absurd h_ (by decide), fun h_ => absurd h_ (by decide), fun h_ => absurd h_ (by decide), fun h_ => absurd h_ (by decide), fun h_ => absurd h_ (by decide), fun h_ => absurd h_ (by decide), fun h_ => absurd h_ (by decide), fun h_ => absurd h_ (by decide), fun h_ => absurd h_ (by decide)⟩
    ·skip
     clear BI BO BR HB HZ RA RC RP
     refine steps_cons ?_ ?_
     ·rintro b a w' ⟨g2, Ve, ce, gb, Vn, cn, m2_, m16_, m17_, m18_, ha, QHB, QHZ, QBO, QBI, QBR, QRA, QRP, QRC, QE1, QRE, QEB, QLgb, QRN, QBN, QX2_, QX16_, QX17_, QX18_⟩ hb_ hon hoff
      refine ⟨_, rfl, fun K hK => ?_⟩
      have e3 : a.tmps[3]? = some (.pointer (some ⟨gO, 0, none⟩)) := by rw [ha]; exact (putSel_off rfl).trans rfl
      replace ha := aM_ ha
      have HB := aM_ QHB
      have HZ := aM_ QHZ
      have BO := aM_ (QBO (hoff 20 rfl))
      have BI := aM_ QBI
      have BR := aM_ QBR
      have RA := aM_ QRA
      have RP := aM_ QRP
      have RC := aM_ (QRC (hoff 18 rfl))
      refine value_ (w1 := w') (v := .pointer (some ⟨gO, 0, none⟩)) (by rfl) rfl ?_ ?_
      ·go_simp
       (try simp only [i64_w])
       try rfl
       try assumption
      refine hK.out _ _ ⟨g2, Ve, ce, gb, Vn, cn, m2_, m16_, m17_, m18_, (by rw [ha.out]; exact putSel_upk 0 hb_ rfl rfl rfl), QHB, QHZ, QBO, QBI, QBR, QRA, QRP, QRC, QE1, QRE, QEB, QLgb, dD_ (hoff 18 rfl), dD_ (hoff 20 rfl), QX2_, QX16_, QX17_, dD_ (hoff 18 rfl)⟩
     refine steps_cons ?_ ?_
     ·rintro b a w' ⟨g2, Ve, ce, gb, Vn, cn, m2_, m16_, m17_, m18_, ha, QHB, QHZ, QBO, QBI, QBR, QRA, QRP, QRC, QE1, QRE, QEB, QLgb, QRN, QBN, QX2_, QX16_, QX17_, QX18_⟩ hb_ hon hoff
      refine ⟨_, rfl, fun K hK => ?_⟩
      have e41 : a.tmps[41]? = some (.pointer (some ⟨gO, 0, none⟩)) := by rw [ha]; exact putSel_on (e := (0, 41, .pointer (some ⟨gO, 0, none⟩))) 0 rfl rfl (hon 0 rfl) rfl
      replace ha := aM_ ha
      have HB := aM_ QHB
      have HZ := aM_ QHZ
      have BO := aM_ (QBO (hoff 20 rfl))
      have BI := aM_ QBI
      have BR := aM_ QBR
      have RA := aM_ QRA
      have RP := aM_ QRP
      have RC := aM_ (QRC (hoff 18 rfl))
      have z0 := BO.out.cell 0
      refine value_ (w1 := w') (v := .slice Vc cts.length cc) (by rfl) rfl ?_ ?_
      ·go_simp
       (try simp only [i64_w])
       try rfl
       try assumption
      refine hK.out _ _ ⟨g2, Ve, ce, gb, Vn, cn, m2_, m16_, m17_, m18_, (by rw [ha.out]; exact putSel_upk 1 hb_ rfl rfl rfl), QHB, QHZ, QBO, QBI, QBR, QRA, QRP, QRC, QE1, QRE, QEB, QLgb, dD_ (hoff 18 rfl), dD_ (hoff 20 rfl), QX2_, QX16_, QX17_, dD_ (hoff 18 rfl)⟩
     refine steps_cons ?_ ?_
     ·rintro b a w' ⟨g2, Ve, ce, gb, Vn, cn, m2_, m16_, m17_, m18_, ha, QHB, QHZ, QBO, QBI, QBR, QRA, QRP, QRC, QE1, QRE, QEB, QLgb, QRN, QBN, QX2_, QX16_, QX17_, QX18_⟩ hb_ hon hoff
      refine ⟨_, rfl, fun K hK => ?_⟩
      replace ha := aM_ ha
      have HB := aM_ QHB
      have HZ := aM_ QHZ
      have BO := aM_ (QBO (hoff 20 rfl))
      have BI := aM_ QBI
      have BR := aM_ QBR
      have RA := aM_ QRA
      have RP := aM_ QRP
      have RC := aM_ (QRC (hoff 18 rfl))
      refine value_ (w1 := w'.alloc (.cells #[] 73)) (v := .slice (some ⟨w'.heap.size, 0, none⟩) 0 0) (by rfl) rfl ?_ ?_
      ·go_simp
      refine hK.out _ _ ⟨w'.heap.size, Ve, ce, gb, Vn, cn, (.slice (some ⟨w'.heap.size, 0, none⟩) 0 0), m16_, m17_, m18_, (by rw [ha.out]; exact putSel_upk 2 hb_ rfl rfl rfl), bthen' HB.out (below_alloc (Below.refl _ w') _), Nat.le_trans HZ.out (by simp), fun _ => BO.out.alloc _, BI.out.alloc _, BR.out.alloc _, Kd.R_below RA.out (below_alloc (Below.refl _ w') _), Kd.R_below RP.out (below_alloc (Below.refl _ w') _), fun _ => Kd.R_below RC.out (below_alloc (Below.refl _ w') _), fun _ _ => R_empty kPt 73 HZ.out, dD_ (hoff 16 rfl), dD_ (hoff 17 rfl), dD_ (hoff 17 rfl), dD_ (hoff 18 rfl), dD_ (hoff 20 rfl), fun _ => rfl, dD_ (hoff 16 rfl), dD_ (hoff 17 rfl), dD_ (hoff 18 rfl)⟩
     refine steps_cons ?_ ?_
     ·rintro b a w' ⟨g2, Ve, ce, gb, Vn, cn, m2_, m16_, m17_, m18_, ha, QHB, QHZ, QBO, QBI, QBR, QRA, QRP, QRC, QE1, QRE, QEB, QLgb, QRN, QBN, QX2_, QX16_, QX17_, QX18_⟩ hb_ hon hoff
      refine ⟨_, rfl, fun K hK => ?_⟩
      have e1 : a.tmps[1]? = some (.pointer (some ⟨gI, 0, none⟩)) := by rw [ha]; exact (putSel_off rfl).trans rfl
      replace ha := aM_ ha
      have HB := aM_ QHB
      have HZ := aM_ QHZ
      have BO := aM_ (QBO (hoff 20 rfl))
      have BI := aM_ QBI
      have BR := aM_ QBR
      have RA := aM_ QRA
      have RP := aM_ QRP
      have RC := aM_ (QRC (hoff 18 rfl))
      refine value_ (w1 := w') (v := .pointer (some ⟨gI, 0, none⟩)) (by rfl) rfl ?_ ?_
      ·go_simp
       (try simp only [i64_w])
       try rfl
       try assumption
      refine hK.out _ _ ⟨g2, Ve, ce, gb, Vn, cn, m2_, m16_, m17_, m18_, (by rw [ha.out]; exact putSel_upk 3 hb_ rfl rfl rfl), QHB, QHZ, QBO, QBI, QBR, QRA, QRP, QRC, QE1, dD_ (hoff 16 rfl), dD_ (hoff 17 rfl), dD_ (hoff 17 rfl), dD_ (hoff 18 rfl), dD_ (hoff 20 rfl), QX2_, dD_ (hoff 16 rfl), dD_ (hoff 17 rfl), dD_ (hoff 18 rfl)⟩
     refine steps_cons ?_ ?_
     ·rintro b a w' ⟨g2, Ve, ce, gb, Vn, cn, m2_, m16_, m17_, m18_, ha, QHB, QHZ, QBO, QBI, QBR, QRA, QRP, QRC, QE1, QRE, QEB, QLgb, QRN, QBN, QX2_, QX16_, QX17_, QX18_⟩ hb_ hon hoff
      refine ⟨_, rfl, fun K hK => ?_⟩
      have e44 : a.tmps[44]? = some (.pointer (some ⟨gI, 0, none⟩)) := by rw [ha]; exact putSel_on (e := (3, 44, .pointer (some ⟨gI, 0, none⟩))) 3 rfl rfl (hon 3 rfl) rfl
      replace ha := aM_ ha
      have HB := aM_ QHB
      have HZ := aM_ QHZ
      have BO := aM_ (QBO (hoff 20 rfl))
      have BI := aM_ QBI
      have BR := aM_ QBR
      have RA := aM_ QRA
      have RP := aM_ QRP
      have RC := aM_ (QRC (hoff 18 rfl))
      have z0 := BI.out.cell 0
      refine value_ (w1 := w') (v := .slice (some a1) g.ct.length n1) (by rfl) rfl ?_ ?_
      ·go_simp
       (try simp only [i64_w])
       try rfl
       try assumption
      refine hK.out _ _ ⟨g2, Ve, ce, gb, Vn, cn, m2_, m16_, m17_, m18_, (by rw [ha.out]; exact putSel_upk 4 hb_ rfl rfl rfl), QHB, QHZ, QBO, QBI, QBR, QRA, QRP, QRC, QE1, dD_ (hoff 16 rfl), dD_ (hoff 17 rfl), dD_ (hoff 17 rfl), dD_ (hoff 18 rfl), dD_ (hoff 20 rfl), QX2_, dD_ (hoff 16 rfl), dD_ (hoff 17 rfl), dD_ (hoff 18 rfl)⟩
     refine steps_cons ?_ ?_
     ·rintro b a w' ⟨g2, Ve, ce, gb, Vn, cn, m2_, m16_, m17_, m18_, ha, QHB, QHZ, QBO, QBI, QBR, QRA, QRP, QRC, QE1, QRE, QEB, QLgb, QRN, QBN, QX2_, QX16_, QX17_, QX18_⟩ hb_ hon hoff
      refine ⟨_, rfl, fun K hK => ?_⟩
      have e4 : a.tmps[4]? = some (.int .i64 (k : Int)) := by rw [ha]; exact (putSel_off rfl).trans rfl
      replace ha := aM_ ha
      have HB := aM_ QHB
      have HZ := aM_ QHZ
      have BO := aM_ (QBO (hoff 20 rfl))
      have BI := aM_ QBI
      have BR := aM_ QBR
      have RA := aM_ QRA
      have RP := aM_ QRP
      have RC := aM_ (QRC (hoff 18 rfl))
      refine value_ (w1 := w') (v := .int .i64 (k : Int)) (by rfl) rfl ?_ ?_
      ·go_simp
       (try simp only [i64_w])
       try rfl
       try assumption
      refine hK.out _ _ ⟨g2, Ve, ce, gb, Vn, cn, m2_, m16_, m17_, m18_, (by rw [ha.out]; exact putSel_upk 5 hb_ rfl rfl rfl), QHB, QHZ, QBO, QBI, QBR, QRA, QRP, QRC, QE1, dD_ (hoff 16 rfl), dD_ (hoff 17 rfl), dD_ (hoff 17 rfl), dD_ (hoff 18 rfl), dD_ (hoff 20 rfl), QX2_, dD_ (hoff 16 rfl), dD_ (hoff 17 rfl), dD_ (hoff 18 rfl)⟩
     refine steps_cons ?_ ?_
     ·rintro b a w' ⟨g2, Ve, ce, gb, Vn, cn, m2_, m16_, m17_, m18_, ha, QHB, QHZ, QBO, QBI, QBR, QRA, QRP, QRC, QE1, QRE, QEB, QLgb, QRN, QBN, QX2_, QX16_, QX17_, QX18_⟩ hb_ hon hoff
      refine ⟨_, rfl, fun K hK => ?_⟩
      have e45 : a.tmps[45]? = some (.slice (some a1) g.ct.length n1) := by rw [ha]; exact putSel_on (e := (4, 45, .slice (some a1) g.ct.length n1)) 4 rfl rfl (hon 4 rfl) rfl
      have e46 : a.tmps[46]? = some (.int .i64 (k : Int)) := by rw [ha]; exact putSel_on (e := (5, 46, .int .i64 (k : Int))) 5 rfl rfl (hon 5 rfl) rfl
      replace ha := aM_ ha
      have HB := aM_ QHB
      have HZ := aM_ QHZ
      have BO := aM_ (QBO (hoff 20 rfl))
      have BI := aM_ QBI
      have BR := aM_ QBR
      have RA := aM_ QRA
      have RP := aM_ QRP
      have RC := aM_ (QRC (hoff 18 rfl))
      refine value_ (w1 := w') (v := .pointer (some (a1.add k))) (by rfl) rfl ?_ ?_
      ·go_simp
       (try simp only [i64_w])
       try rfl
       try assumption
      refine hK.out _ _ ⟨g2, Ve, ce, gb, Vn, cn, m2_, m16_, m17_, m18_, (by rw [ha.out]; exact putSel_upk 6 hb_ rfl rfl rfl), QHB, QHZ, QBO, QBI, QBR, QRA, QRP, QRC, QE1, dD_ (hoff 16 rfl), dD_ (hoff 17 rfl), dD_ (hoff 17 rfl), dD_ (hoff 18 rfl), dD_ (hoff 20 rfl), QX2_, dD_ (hoff 16 rfl), dD_ (hoff 17 rfl), dD_ (hoff 18 rfl)⟩
     refine steps_cons ?_ ?_
     ·rintro b a w' ⟨g2, Ve, ce, gb, Vn, cn, m2_, m16_, m17_, m18_, ha, QHB, QHZ, QBO, QBI, QBR, QRA, QRP, QRC, QE1, QRE, QEB, QLgb, QRN, QBN, QX2_, QX16_, QX17_, QX18_⟩ hb_ hon hoff
      refine ⟨_, rfl, fun K hK => ?_⟩
      have e47 : a.tmps[47]? = some (.pointer (some (a1.add k))) := by rw [ha]; exact putSel_on (e := (6, 47, .pointer (some (a1.add k)))) 6 rfl rfl (hon 6 rfl) rfl
      replace ha := aM_ ha
      have HB := aM_ QHB
      have HZ := aM_ QHZ
      have BO := aM_ (QBO (hoff 20 rfl))
      have BI := aM_ QBI
      have BR := aM_ QBR
      have RA := aM_ QRA
      have RP := aM_ QRP
      have RC := aM_ (QRC (hoff 18 rfl))
      have z0 := pw_cell_below HB.out p0
      refine value_ (w1 := w') (v := .slice Ai c.length ci) (by rfl) rfl ?_ ?_
      ·go_simp
       (try simp only [i64_w])
       try rfl
       try assumption
      refine hK.out _ _ ⟨g2, Ve, ce, gb, Vn, cn, m2_, m16_, m17_, m18_, (by rw [ha.out]; exact putSel_upk 7 hb_ rfl rfl rfl), QHB, QHZ, QBO, QBI, QBR, QRA, QRP, QRC, QE1, dD_ (hoff 16 rfl), dD_ (hoff 17 rfl), dD_ (hoff 17 rfl), dD_ (hoff 18 rfl), dD_ (hoff 20 rfl), QX2_, dD_ (hoff 16 rfl), dD_ (hoff 17 rfl), dD_ (hoff 18 rfl)⟩
     refine steps_cons ?_ ?_
     ·rintro b a w' ⟨g2, Ve, ce, gb, Vn, cn, m2_, m16_, m17_, m18_, ha, QHB, QHZ, QBO, QBI, QBR, QRA, QRP, QRC, QE1, QRE, QEB, QLgb, QRN, QBN, QX2_, QX16_, QX17_, QX18_⟩ hb_ hon hoff
      refine ⟨_, rfl, fun K hK => ?_⟩
      have e1 : a.tmps[1]? = some (.pointer (some ⟨gI, 0, none⟩)) := by rw [ha]; exact (putSel_off rfl).trans rfl
      replace ha := aM_ ha
      have HB := aM_ QHB
      have HZ := aM_ QHZ
      have BO := aM_ (QBO (hoff 20 rfl))
      have BI := aM_ QBI
      have BR := aM_ QBR
      have RA := aM_ QRA
      have RP := aM_ QRP
      have RC := aM_ (QRC (hoff 18 rfl))
      refine value_ (w1 := w') (v := .pointer (some ⟨gI, 0, none⟩)) (by rfl) rfl ?_ ?_
      ·go_simp
       (try simp only [i64_w])
       try rfl
       try assumption
      refine hK.out _ _ ⟨g2, Ve, ce, gb, Vn, cn, m2_, m16_, m17_, m18_, (by rw [ha.out]; exact putSel_upk 8 hb_ rfl rfl rfl), QHB, QHZ, QBO, QBI, QBR, QRA, QRP, QRC, QE1, dD_ (hoff 16 rfl), dD_ (hoff 17 rfl), dD_ (hoff 17 rfl), dD_ (hoff 18 rfl), dD_ (hoff 20 rfl), QX2_, dD_ (hoff 16 rfl), dD_ (hoff 17 rfl), dD_ (hoff 18 rfl)⟩
     refine steps_cons ?_ ?_
     ·rintro b a w' ⟨g2, Ve, ce, gb, Vn, cn, m2_, m16_, m17_, m18_, ha, QHB, QHZ, QBO, QBI, QBR, QRA, QRP, QRC, QE1, QRE, QEB, QLgb, QRN, QBN, QX2_, QX16_, QX17_, QX18_⟩ hb_ hon hoff
      refine ⟨_, rfl, fun K hK => ?_⟩
      have e49 : a.tmps[49]? = some (.pointer (some ⟨gI, 0, none⟩)) := by rw [ha]; exact putSel_on (e := (8, 49, .pointer (some ⟨gI, 0, none⟩))) 8 rfl rfl (hon 8 rfl) rfl
      replace ha := aM_ ha
      have HB := aM_ QHB
      have HZ := aM_ QHZ
      have BO := aM_ (QBO (hoff 20 rfl))
      have BI := aM_ QBI
      have BR := aM_ QBR
      have RA := aM_ QRA
      have RP := aM_ QRP
      have RC := aM_ (QRC (hoff 18 rfl))
      have z0 := BI.out.cell 0
      refine value_ (w1 := w') (v := .slice (some a1) g.ct.length n1) (by rfl) rfl ?_ ?_
      ·go_simp
       (try simp only [i64_w])
       try rfl
       try assumption
      refine hK.out _ _ ⟨g2, Ve, ce, gb, Vn, cn, m2_, m16_, m17_, m18_, (by rw [ha.out]; exact putSel_upk 9 hb_ rfl rfl rfl), QHB, QHZ, QBO, QBI, QBR, QRA, QRP, QRC, QE1, dD_ (hoff 16 rfl), dD_ (hoff 17 rfl), dD_ (hoff 17 rfl), dD_ (hoff 18 rfl), dD_ (hoff 20 rfl), QX2_, dD_ (hoff 16 rfl), dD_ (hoff 17 rfl), dD_ (hoff 18 rfl)⟩
     refine steps_cons ?_ ?_
     ·rintro b a w' ⟨g2, Ve, ce, gb, Vn, cn, m2_, m16_, m17_, m18_, ha, QHB, QHZ, QBO, QBI, QBR, QRA, QRP, QRC, QE1, QRE, QEB, QLgb, QRN, QBN, QX2_, QX16_, QX17_, QX18_⟩ hb_ hon hoff
      refine ⟨_, rfl, fun K hK => ?_⟩
      have e4 : a.tmps[4]? = some (.int .i64 (k : Int)) := by rw [ha]; exact (putSel_off rfl).trans rfl
      replace ha := aM_ ha
      have HB := aM_ QHB
      have HZ := aM_ QHZ
      have BO := aM_ (QBO (hoff 20 rfl))
      have BI := aM_ QBI
      have BR := aM_ QBR
      have RA := aM_ QRA
      have RP := aM_ QRP
      have RC := aM_ (QRC (hoff 18 rfl))
      refine value_ (w1 := w') (v := .int .i64 (k : Int)) (by rfl) rfl ?_ ?_
      ·go_simp
       (try simp only [i64_w])
       try rfl
       try assumption
      refine hK.out _ _ ⟨g2, Ve, ce, gb, Vn, cn, m2_, m16_, m17_, m18_, (by rw [ha.out]; exact putSel_upk 10 hb_ rfl rfl rfl), QHB, QHZ, QBO, QBI, QBR, QRA, QRP, QRC, QE1, dD_ (hoff 16 rfl), dD_ (hoff 17 rfl), dD_ (hoff 17 rfl), dD_ (hoff 18 rfl), dD_ (hoff 20 rfl), QX2_, dD_ (hoff 16 rfl), dD_ (hoff 17 rfl), dD_ (hoff 18 rfl)⟩
     refine steps_cons ?_ ?_
     ·rintro b a w' ⟨g2, Ve, ce, gb, Vn, cn, m2_, m16_, m17_, m18_, ha, QHB, QHZ, QBO, QBI, QBR, QRA, QRP, QRC, QE1, QRE, QEB, QLgb, QRN, QBN, QX2_, QX16_, QX17_, QX18_⟩ hb_ hon hoff
      refine ⟨_, rfl, fun K hK => ?_⟩
      have e50 : a.tmps[50]? = some (.slice (some a1) g.ct.length n1) := by rw [ha]; exact putSel_on (e := (9, 50, .slice (some a1) g.ct.length n1)) 9 rfl rfl (hon 9 rfl) rfl
      have e51 : a.tmps[51]? = some (.int .i64 (k : Int)) := by rw [ha]; exact putSel_on (e := (10, 51, .int .i64 (k : Int))) 10 rfl rfl (hon 10 rfl) rfl
      replace ha := aM_ ha
      have HB := aM_ QHB
      have HZ := aM_ QHZ
      have BO := aM_ (QBO (hoff 20 rfl))
      have BI := aM_ QBI
      have BR := aM_ QBR
      have RA := aM_ QRA
      have RP := aM_ QRP
      have RC := aM_ (QRC (hoff 18 rfl))
      refine value_ (w1 := w') (v := .pointer (some (a1.add k))) (by rfl) rfl ?_ ?_
      ·go_simp
       (try simp only [i64_w])
       try rfl
       try assumption
      refine hK.out _ _ ⟨g2, Ve, ce, gb, Vn, cn, m2_, m16_, m17_, m18_, (by rw [ha.out]; exact putSel_upk 11 hb_ rfl rfl rfl), QHB, QHZ, QBO, QBI, QBR, QRA, QRP, QRC, QE1, dD_ (hoff 16 rfl), dD_ (hoff 17 rfl), dD_ (hoff 17 rfl), dD_ (hoff 18 rfl), dD_ (hoff 20 rfl), QX2_, dD_ (hoff 16 rfl), dD_ (hoff 17 rfl), dD_ (hoff 18 rfl)⟩
     refine steps_cons ?_ ?_
     ·rintro b a w' ⟨g2, Ve, ce, gb, Vn, cn, m2_, m16_, m17_, m18_, ha, QHB, QHZ, QBO, QBI, QBR, QRA, QRP, QRC, QE1, QRE, QEB, QLgb, QRN, QBN, QX2_, QX16_, QX17_, QX18_⟩ hb_ hon hoff
      refine ⟨_, rfl, fun K hK => ?_⟩
      have e52 : a.tmps[52]? = some (.pointer (some (a1.add k))) := by rw [ha]; exact putSel_on (e := (11, 52, .pointer (some (a1.add k)))) 11 rfl rfl (hon 11 rfl) rfl
      replace ha := aM_ ha
      have HB := aM_ QHB
      have HZ := aM_ QHZ
      have BO := aM_ (QBO (hoff 20 rfl))
      have BI := aM_ QBI
      have BR := aM_ QBR
      have RA := aM_ QRA
      have RP := aM_ QRP
      have RC := aM_ (QRC (hoff 18 rfl))
      have z0 := pw_cell_below HB.out p0
      refine value_ (w1 := w') (v := .slice Ai c.length ci) (by rfl) rfl ?_ ?_
      ·go_simp
       (try simp only [i64_w])
       try rfl
       try assumption
      refine hK.out _ _ ⟨g2, Ve, ce, gb, Vn, cn, m2_, m16_, m17_, m18_, (by rw [ha.out]; exact putSel_upk 12 hb_ rfl rfl rfl), QHB, QHZ, QBO, QBI, QBR, QRA, QRP, QRC, QE1, dD_ (hoff 16 rfl), dD_ (hoff 17 rfl), dD_ (hoff 17 rfl), dD_ (hoff 18 rfl), dD_ (hoff 20 rfl), QX2_, dD_ (hoff 16 rfl), dD_ (hoff 17 rfl), dD_ (hoff 18 rfl)⟩
     refine steps_cons ?_ ?_
     ·rintro b a w' ⟨g2, Ve, ce, gb, Vn, cn, m2_, m16_, m17_, m18_, ha, QHB, QHZ, QBO, QBI, QBR, QRA, QRP, QRC, QE1, QRE, QEB, QLgb, QRN, QBN, QX2_, QX16_, QX17_, QX18_⟩ hb_ hon hoff
      refine ⟨_, rfl, fun K hK => ?_⟩
      have e53 : a.tmps[53]? = some (.slice Ai c.length ci) := by rw [ha]; exact putSel_on (e := (12, 53, .slice Ai c.length ci)) 12 rfl rfl (hon 12 rfl) rfl
      replace ha := aM_ ha
      have HB := aM_ QHB
      have HZ := aM_ QHZ
      have BO := aM_ (QBO (hoff 20 rfl))
      have BI := aM_ QBI
      have BR := aM_ QBR
      have RA := aM_ QRA
      have RP := aM_ QRP
      have RC := aM_ (QRC (hoff 18 rfl))
      refine value_ (w1 := w') (v := .int .i64 (c.length : Int)) (by rfl) rfl ?_ ?_
      ·go_simp
       (try simp only [i64_w])
       try rfl
       try assumption
      refine hK.out _ _ ⟨g2, Ve, ce, gb, Vn, cn, m2_, m16_, m17_, m18_, (by rw [ha.out]; exact putSel_upk 13 hb_ rfl rfl rfl), QHB, QHZ, QBO, QBI, QBR, QRA, QRP, QRC, QE1, dD_ (hoff 16 rfl), dD_ (hoff 17 rfl), dD_ (hoff 17 rfl), dD_ (hoff 18 rfl), dD_ (hoff 20 rfl), QX2_, dD_ (hoff 16 rfl), dD_ (hoff 17 rfl), dD_ (hoff 18 rfl)⟩
     refine steps_cons ?_ ?_
     ·rintro b a w' ⟨g2, Ve, ce, gb, Vn, cn, m2_, m16_, m17_, m18_, ha, QHB, QHZ, QBO, QBI, QBR, QRA, QRP, QRC, QE1, QRE, QEB, QLgb, QRN, QBN, QX2_, QX16_, QX17_, QX18_⟩ hb_ hon hoff
      refine ⟨_, rfl, fun K hK => ?_⟩
      have e54 : a.tmps[54]? = some (.int .i64 (c.length : Int)) := by rw [ha]; exact putSel_on (e := (13, 54, .int .i64 (c.length : Int))) 13 rfl rfl (hon 13 rfl) rfl
      replace ha := aM_ ha
      have HB := aM_ QHB
      have HZ := aM_ QHZ
      have BO := aM_ (QBO (hoff 20 rfl))
      have BI := aM_ QBI
      have BR := aM_ QBR
      have RA := aM_ QRA
      have RP := aM_ QRP
      have RC := aM_ (QRC (hoff 18 rfl))
      refine value_ (w1 := w') (v := .int .i64 (c5.length : Int)) (by rfl) rfl ?_ ?_
      ·go_simp
       (try simp only [i64_w])
       try rfl
       try assumption
      refine hK.out _ _ ⟨g2, Ve, ce, gb, Vn, cn, m2_, m16_, m17_, m18_, (by rw [ha.out]; exact putSel_upk 14 hb_ rfl rfl rfl), QHB, QHZ, QBO, QBI, QBR, QRA, QRP, QRC, QE1, dD_ (hoff 16 rfl), dD_ (hoff 17 rfl), dD_ (hoff 17 rfl), dD_ (hoff 18 rfl), dD_ (hoff 20 rfl), QX2_, dD_ (hoff 16 rfl), dD_ (hoff 17 rfl), dD_ (hoff 18 rfl)⟩
     refine steps_cons ?_ ?_
     ·rintro b a w' ⟨g2, Ve, ce, gb, Vn, cn, m2_, m16_, m17_, m18_, ha, QHB, QHZ, QBO, QBI, QBR, QRA, QRP, QRC, QE1, QRE, QEB, QLgb, QRN, QBN, QX2_, QX16_, QX17_, QX18_⟩ hb_ hon hoff
      refine ⟨_, rfl, fun K hK => ?_⟩
      have e48 : a.tmps[48]? = some (.slice Ai c.length ci) := by rw [ha]; exact putSel_on (e := (7, 48, .slice Ai c.length ci)) 7 rfl rfl (hon 7 rfl) rfl
      have e55 : a.tmps[55]? = some (.int .i64 (c5.length : Int)) := by rw [ha]; exact putSel_on (e := (14, 55, .int .i64 (c5.length : Int))) 14 rfl rfl (hon 14 rfl) rfl
      replace ha := aM_ ha
      have HB := aM_ QHB
      have HZ := aM_ QHZ
      have BO := aM_ (QBO (hoff 20 rfl))
      have BI := aM_ QBI
      have BR := aM_ QBR
      have RA := aM_ QRA
      have RP := aM_ QRP
      have RC := aM_ (QRC (hoff 18 rfl))
      have hs := HS1.out
      refine value_ (w1 := w') (v := .slice Ai c5.length ci) (by rfl) rfl ?_ ?_
      ·go_simp
       (try simp only [i64_w])
       try rfl
       try assumption
      refine hK.out _ _ ⟨g2, Ve, ce, gb, Vn, cn, m2_, m16_, m17_, m18_, (by rw [ha.out]; exact putSel_upk 15 hb_ rfl rfl rfl), QHB, QHZ, QBO, QBI, QBR, QRA, QRP, QRC, QE1, dD_ (hoff 16 rfl), dD_ (hoff 17 rfl), dD_ (hoff 17 rfl), dD_ (hoff 18 rfl), dD_ (hoff 20 rfl), QX2_, dD_ (hoff 16 rfl), dD_ (hoff 17 rfl), dD_ (hoff 18 rfl)⟩
     refine steps_cons ?_ ?_
     ·rintro b a w' ⟨g2, Ve, ce, gb, Vn, cn, m2_, m16_, m17_, m18_, ha, QHB, QHZ, QBO, QBI, QBR, QRA, QRP, QRC, QE1, QRE, QEB, QLgb, QRN, QBN, QX2_, QX16_, QX17_, QX18_⟩ hb_ hon hoff
      refine ⟨_, rfl, fun K hK => ?_⟩
      have e43 : a.tmps[43]? = some (m2_) := by rw [ha]; exact putSel_on (e := (2, 43, m2_)) 2 rfl rfl (hon 2 rfl) rfl
      rw [QX2_ (hon 2 rfl)] at e43
      have e56 : a.tmps[56]? = some (.slice Ai c5.length ci) := by rw [ha]; exact putSel_on (e := (15, 56, .slice Ai c5.length ci)) 15 rfl rfl (hon 15 rfl) rfl
      replace ha := aM_ ha
      have HB := aM_ QHB
      have HZ := aM_ QHZ
      have BO := aM_ (QBO (hoff 20 rfl))
      have BI := aM_ QBI
      have BR := aM_ QBR
      have RA := aM_ QRA
      have RP := aM_ QRP
      have RC := aM_ (QRC (hoff 18 rfl))
      have E1 := aM_ (QE1 (hon 2 rfl) hb_)
      obtain ⟨vv, w2, hr, o1, o2, o3⟩ := append_all 71 73 _ 24 (by kernel_rfl) infoPt rfl (by decide) (by omega) (fun h => h) E1.out (Below.refl _ _) HZ.out Ai ci (Kd.C_below HC5.out HB.out) (by have := HLc5.out; simp only [List.length_nil]; omega)
      rw [List.nil_append] at o1
      obtain ⟨vA, vc, rfl⟩ := Kd.R_slice o1
      refine value_ (w1 := w2) (v := .slice vA c5.length vc) (by rfl) rfl ?_ ?_
      ·exact run_append_opU (by rfl) e43 e56 hr
      refine hK.out _ _ ⟨g2, vA, vc, gb, Vn, cn, m2_, (.slice vA c5.length vc), m17_, m18_, (by rw [ha.out]; exact putSel_upk 16 hb_ rfl rfl rfl), HB.out.trans (o2.mono HX2.out.size), Nat.le_trans HZ.out (grown_size o3), fun _ => (o3.block gO BO.out.lt (Kd.R_ne E1.out BO.out (by decide))).trans BO.out, (o3.block gI BI.out.lt (Kd.R_ne E1.out BI.out (by decide))).trans BI.out, (o3.block gR BR.out.lt (Kd.R_ne E1.out BR.out (by decide))).trans BR.out, R_grown_types RA.out E1.out (by decide) o3, R_grown_types RP.out E1.out (by decide) o3, fun _ => Kd.R_grown RC.out o3 (fun k_ h_ e_ => by have h1 := (Kd.R_bound E1.out).1 k_ e_.symm; have h2 := h1.2.1; omega), fun _ => dE_ (up_self b 16), fun _ _ => o1, dD_ (hoff 17 rfl), dD_ (hoff 17 rfl), dD_ (hoff 18 rfl), dD_ (hoff 20 rfl), QX2_, fun _ => rfl, dD_ (hoff 17 rfl), dD_ (hoff 18 rfl)⟩
     refine steps_cons ?_ ?_
     ·rintro b a w' ⟨g2, Ve, ce, gb, Vn, cn, m2_, m16_, m17_, m18_, ha, QHB, QHZ, QBO, QBI, QBR, QRA, QRP, QRC, QE1, QRE, QEB, QLgb, QRN, QBN, QX2_, QX16_, QX17_, QX18_⟩ hb_ hon hoff
      refine ⟨_, rfl, fun K hK => ?_⟩
      have e57 : a.tmps[57]? = some (m16_) := by rw [ha]; exact putSel_on (e := (16, 57, m16_)) 16 rfl rfl (hon 16 rfl) rfl
      rw [QX16_ (hon 16 rfl)] at e57
      replace ha := aM_ ha
      have HB := aM_ QHB
      have HZ := aM_ QHZ
      have BO := aM_ (QBO (hoff 20 rfl))
      have BI := aM_ QBI
      have BR := aM_ QBR
      have RA := aM_ QRA
      have RP := aM_ QRP
      have RC := aM_ (QRC (hoff 18 rfl))
      have RE := aM_ (QRE (hon 16 rfl) (hoff 18 rfl))
      refine value_ (w1 := w'.alloc (.cells #[.slice Ve c5.length ce] 71)) (v := .slice (some ⟨w'.heap.size, 0, none⟩) 1 1) (by rfl) rfl ?_ ?_
      ·go_simp
      refine hK.out _ _ ⟨g2, Ve, ce, w'.heap.size, Vn, cn, m2_, m16_, (.slice (some ⟨w'.heap.size, 0, none⟩) 1 1), m18_, (by rw [ha.out]; exact putSel_upk 17 hb_ rfl rfl rfl), bthen' HB.out (below_alloc (Below.refl _ w') _), Nat.le_trans HZ.out (by simp), fun _ => BO.out.alloc _, BI.out.alloc _, BR.out.alloc _, Kd.R_below RA.out (below_alloc (Below.refl _ w') _), Kd.R_below RP.out (below_alloc (Below.refl _ w') _), fun _ => Kd.R_below RC.out (below_alloc (Below.refl _ w') _), fun _ => dE_ (hon 16 rfl), fun _ _ => Kd.R_below RE.out (below_alloc (Below.refl _ w') _), fun _ _ => Blk.new w' _ _ rfl, fun _ => HB.out.size, dD_ (hoff 18 rfl), dD_ (hoff 20 rfl), QX2_, QX16_, fun _ => rfl, dD_ (hoff 18 rfl)⟩
     refine steps_cons ?_ ?_
     ·rintro b a w' ⟨g2, Ve, ce, gb, Vn, cn, m2_, m16_, m17_, m18_, ha, QHB, QHZ, QBO, QBI, QBR, QRA, QRP, QRC, QE1, QRE, QEB, QLgb, QRN, QBN, QX2_, QX16_, QX17_, QX18_⟩ hb_ hon hoff
      refine ⟨_, rfl, fun K hK => ?_⟩
      have e42 : a.tmps[42]? = some (.slice Vc cts.length cc) := by rw [ha]; exact putSel_on (e := (1, 42, .slice Vc cts.length cc)) 1 rfl rfl (hon 1 rfl) rfl
      have e58 : a.tmps[58]? = some (m17_) := by rw [ha]; exact putSel_on (e := (17, 58, m17_)) 17 rfl rfl (hon 17 rfl) rfl
      rw [QX17_ (hon 17 rfl)] at e58
      replace ha := aM_ ha
      have HB := aM_ QHB
      have HZ := aM_ QHZ
      have BO := aM_ (QBO (hoff 20 rfl))
      have BI := aM_ QBI
      have BR := aM_ QBR
      have RA := aM_ QRA
      have RP := aM_ QRP
      have RC := aM_ (QRC hb_)
      have RE := aM_ (QRE (hon 16 rfl) hb_)
      have EB := aM_ (QEB (hon 17 rfl) hb_)
      have Lgb := aM_ (QLgb (hon 17 rfl))
      have hp_ := (show kCt.M w' w2.heap.size (fun k_ => True ∧ wr.heap.size ≤ k_ ∧ k_ < w'.heap.size ∧ ∃ q, q ∈ 73 :: kPt.E ∧ ∃ cells, w'.heap[k_]? = some (.cells cells q (0, 0))) c5 [.slice Ve c5.length ce] from ⟨_, rfl, Kd.R_lower (Kd.R_bound RE.out) HX2.out.size⟩)
      have hok_ := (show ∀ k_, (fun k_ => True ∧ wr.heap.size ≤ k_ ∧ k_ < w'.heap.size ∧ ∃ q, q ∈ 73 :: kPt.E ∧ ∃ cells, w'.heap[k_]? = some (.cells cells q (0, 0))) k_ → True ∧ some k_ ≠ (Value.slice Vc cts.length cc).ownBlock from fun k_ h_ => ⟨trivial, fun e_ => by have h1 := RC.out.1 k_ e_.symm; have h2 := h_.2.1; omega⟩)
      obtain ⟨vv, w2, hr, o1, o2, o3⟩ := append_kd2 22 71 _ 24 (by kernel_rfl) infoCt rfl (by decide) (by omega) (Kd.R_mono RC.out (fun _ _ => trivial)) HB.out HB.out.size gb c5 [.slice Ve c5.length ce] EB.out hp_ hok_ (by have := HCL.out; omega)
      obtain ⟨vA, vc, rfl⟩ := Kd.R_slice o1
      refine value_ (w1 := w2) (v := .slice vA (cts ++ [c5]).length vc) (by rfl) rfl ?_ ?_
      ·exact run_append_opU (by rfl) e42 e58 hr
      refine hK.out _ _ ⟨g2, Ve, ce, gb, vA, vc, m2_, m16_, m17_, (.slice vA (cts ++ [c5]).length vc), (by rw [ha.out]; exact putSel_upk 18 hb_ rfl rfl rfl), o2, Nat.le_trans HZ.out (grown_size o3), fun _ => (o3.block gO BO.out.lt (Kd.R_ne RC.out BO.out (by decide))).trans BO.out, (o3.block gI BI.out.lt (Kd.R_ne RC.out BI.out (by decide))).trans BI.out, (o3.block gR BR.out.lt (Kd.R_ne RC.out BR.out (by decide))).trans BR.out, R_grown_types RA.out RC.out (by decide) o3, R_grown_types RP.out RC.out (by decide) o3, dE_ (up_self b 18), fun _ => dE_ (hon 16 rfl), fun _ => dE_ (up_self b 18), fun _ => dE_ (up_self b 18), QLgb, fun _ => o1, dD_ (hoff 20 rfl), QX2_, QX16_, QX17_, fun _ => rfl⟩
     refine steps_cons ?_ ?_
     ·rintro b a w' ⟨g2, Ve, ce, gb, Vn, cn, m2_, m16_, m17_, m18_, ha, QHB, QHZ, QBO, QBI, QBR, QRA, QRP, QRC, QE1, QRE, QEB, QLgb, QRN, QBN, QX2_, QX16_, QX17_, QX18_⟩ hb_ hon hoff
      refine ⟨_, rfl, fun K hK => ?_⟩
      have e3 : a.tmps[3]? = some (.pointer (some ⟨gO, 0, none⟩)) := by rw [ha]; exact (putSel_off rfl).trans rfl
      replace ha := aM_ ha
      have HB := aM_ QHB
      have HZ := aM_ QHZ
      have BO := aM_ (QBO (hoff 20 rfl))
      have BI := aM_ QBI
      have BR := aM_ QBR
      have RA := aM_ QRA
      have RP := aM_ QRP
      have Lgb := aM_ (QLgb (hon 17 rfl))
      have RN := aM_ (QRN (hon 18 rfl))
      refine value_ (w1 := w') (v := .pointer (some ⟨gO, 0, none⟩)) (by rfl) rfl ?_ ?_
      ·go_simp
       (try simp only [i64_w])
       try rfl
       try assumption
      refine hK.out _ _ ⟨g2, Ve, ce, gb, Vn, cn, m2_, m16_, m17_, m18_, (by rw [ha.out]; exact putSel_upk 19 hb_ rfl rfl rfl), QHB, QHZ, QBO, QBI, QBR, QRA, QRP, fun h0_ => absurd ((hon 18 rfl).symm.trans h0_) (by decide), fun _ => dE_ (hon 16 rfl), fun _ => dE_ (hon 18 rfl), fun _ => dE_ (hon 18 rfl), QLgb, QRN, dD_ (hoff 20 rfl), QX2_, QX16_, QX17_, QX18_⟩
     refine steps_cons ?_ ?_
     ·rintro b a w' ⟨g2, Ve, ce, gb, Vn, cn, m2_, m16_, m17_, m18_, ha, QHB, QHZ, QBO, QBI, QBR, QRA, QRP, QRC, QE1, QRE, QEB, QLgb, QRN, QBN, QX2_, QX16_, QX17_, QX18_⟩ hb_ hon hoff
      refine ⟨_, rfl, fun K hK => ?_⟩
      have e60 : a.tmps[60]? = some (.pointer (some ⟨gO, 0, none⟩)) := by rw [ha]; exact putSel_on (e := (19, 60, .pointer (some ⟨gO, 0, none⟩))) 19 rfl rfl (hon 19 rfl) rfl
      have e59 : a.tmps[59]? = some (m18_) := by rw [ha]; exact putSel_on (e := (18, 59, m18_)) 18 rfl rfl (hon 18 rfl) rfl
      rw [QX18_ (hon 18 rfl)] at e59
      replace ha := aM_ ha
      have HB := aM_ QHB
      have HZ := aM_ QHZ
      have BO := aM_ (QBO hb_)
      have BI := aM_ QBI
      have BR := aM_ QBR
      have RA := aM_ QRA
      have RP := aM_ QRP
      have Lgb := aM_ (QLgb (hon 17 rfl))
      have RN := aM_ (QRN (hon 18 rfl))
      have c0 := BO.out.cell 0
      simp only [gA_, gZ_, gS_] at c0
      have f0 := BO.out.frozen 0
      refine skip_ (w1 := (w'.setCell ⟨gO, 0, none⟩ (.slice Vn (cts ++ [c5]).length cn))) (by rfl) rfl ?_ ?_
      ·go_simp
      refine hK.out _ _ ⟨g2, Ve, ce, gb, Vn, cn, m2_, m16_, m17_, m18_, (by rw [ha.out]; exact putSel_none (v := undef) rfl), (bset HB.out HLO.out 0 (.slice Vn (cts ++ [c5]).length cn)), Nat.le_trans HZ.out (by simp), dE_ (up_self b 20), (BI.out.far (Ne.symm HOI.out.1) 0 (.slice Vn (cts ++ [c5]).length cn)), (BR.out.far (Ne.symm HOI.out.2) 0 (.slice Vn (cts ++ [c5]).length cn)), (Kd.R_set RA.out BO.out (by decide) 0 (.slice Vn (cts ++ [c5]).length cn)), (Kd.R_set RP.out BO.out (by decide) 0 (.slice Vn (cts ++ [c5]).length cn)), fun h0_ => absurd ((hon 18 rfl).symm.trans h0_) (by decide), fun _ => dE_ (hon 16 rfl), fun _ => dE_ (hon 18 rfl), fun _ => dE_ (hon 18 rfl), QLgb, fun _ => (Kd.R_set RN.out BO.out (by decide) 0 (.slice Vn (cts ++ [c5]).length cn)), fun _ => (BO.out.put 0 (.slice Vn (cts ++ [c5]).length cn) rfl), QX2_, QX16_, QX17_, QX18_⟩
     exact steps_nil
    ·rintro b a w' hall ⟨g2, Ve, ce, gb, Vn, cn, m2_, m16_, m17_, m18_, ha, QHB, QHZ, QBO, QBI, QBR, QRA, QRP, QRC, QE1, QRE, QEB, QLgb, QRN, QBN, QX2_, QX16_, QX17_, QX18_⟩
     clear BI BO BR HB HZ RA RC RP
     have hb0_ := hall 0 (by kernel_rfl)
     have hb1_ := hall 1 (by kernel_rfl)
     have hb2_ := hall 2 (by kernel_rfl)
     have hb3_ := hall 3 (by kernel_rfl)
     have hb4_ := hall 4 (by kernel_rfl)
     have hb5_ := hall 5 (by kernel_rfl)
     have hb6_ := hall 6 (by kernel_rfl)
     have hb7_ := hall 7 (by kernel_rfl)
     have hb8_ := hall 8 (by kernel_rfl)
     have hb9_ := hall 9 (by kernel_rfl)
     have hb10_ := hall 10 (by kernel_rfl)
     have hb11_ := hall 11 (by kernel_rfl)
     have hb12_ := hall 12 (by kernel_rfl)
     have hb13_ := hall 13 (by kernel_rfl)
     have hb14_ := hall 14 (by kernel_rfl)
     have hb15_ := hall 15 (by kernel_rfl)
     have hb16_ := hall 16 (by kernel_rfl)
     have hb17_ := hall 17 (by kernel_rfl)
     have hb18_ := hall 18 (by kernel_rfl)
     have hb19_ := hall 19 (by kernel_rfl)
     have hb20_ := hall 20 (by kernel_rfl)
     subst ha
     obtain rfl := QX2_ hb2_
     obtain rfl := QX16_ hb16_
     obtain rfl := QX17_ hb17_
     obtain rfl := QX18_ hb18_
     simp only [putSel, hb0_, hb1_, hb2_, hb3_, hb4_, hb5_, hb6_, hb7_, hb8_, hb9_, hb10_, hb11_, hb12_, hb13_, hb14_, hb15_, hb16_, hb17_, hb18_, hb19_, hb20_, if_true, Act.put, List.setIfInBounds_toArray, List.set_cons_zero, List.set_cons_succ]
     have HB := aM_ QHB
     clear QHB
     have HZ := aM_ QHZ
     clear QHZ
     clear QBO
     have BI := aM_ QBI
     clear QBI
     have BR := aM_ QBR
     clear QBR
     have RA := aM_ QRA
     clear QRA
     have RP := aM_ QRP
     clear QRP
     clear QRC
     clear QE1
     clear QRE
     clear QEB
     have Lgb := aM_ (QLgb hb17_)
     clear QLgb
     have RN := aM_ (QRN hb18_)
     clear QRN
     have BN := aM_ (QBN hb20_)
     clear QBN
     clear hall hb0_ hb1_ hb2_ hb3_ hb4_ hb5_ hb6_ hb7_ hb8_ hb9_ hb10_ hb11_ hb12_ hb13_ hb14_ hb15_ hb16_ hb17_ hb18_ hb19_ hb20_
     generalize w' = w5 at *
     obtain ⟨c2s, hc2⟩ : ∃ q, cts ++ [c5] = q := ⟨_, rfl⟩
     have HC2L := lH_ (show c2s.length = k + 1 by rw [← hc2, List.length_append, HCL.out]; rfl)
     rw [hc2] at RN BN
     have HRN := lH_ RN.out
     clear hc2 HW_ HT_
     go_wp2_with fail
     exact ⟨⟨k + 1, c2s, Vn, cn, by go_num, by have := HKL.out; omega, by have := HKL.out; omega, HC2L, HRN, lH_ RA.out, lH_ RP.out, lH_ BN.out, lH_ BI.out, lH_ BR.out, lH_ HB.out⟩, by have := HKL.out; simp [intOf]; omega⟩
   ·by_cases hk2 : k < g.ct.length
    ·have d1 : decide (k < g.ct.length) = true := decide_eq_true hk2
     have d2 : decide ((k : Int) < (g.ct.length : Int)) = true := decide_eq_true (by omega)
     have d3 : decide (k < 7) = false := decide_eq_false (by omega)
     have d4 : decide ((k : Int) < 7) = false := decide_eq_false (by omega)
     go_wp2_with fail
     clear i0 d1 d2
     go_loopw [5] (fun i wr => ∃ (j : Nat) (dls : List Dl) (Vd : Option Addr) (cd : Nat), i = .int .i64 (j : Int) ∧ j ≤ g.dl.length ∧ j ≤ 7 ∧ Hid (dls.length = j) ∧ Hid (Kd.R kCt 71 wr w2.heap.size (fun _ => True) (.slice Vc cts.length cc) cts) ∧ Hid (Kd.R kI3 25 wr w2.heap.size (fun _ => True) (.slice Va an7.length ca) an7) ∧ Hid (Kd.R kI2 41 wr w2.heap.size (fun _ => True) (.slice Vp pr5.length cp) pr5) ∧ Hid (Kd.R kDl 59 wr w2.heap.size (fun _ => True) (.slice Vd dls.length cd) dls) ∧ Hid (Blk wr gO #[.slice Vc cts.length cc, .slice Va an7.length ca, .int .i64 g.hang.a, .int .i64 g.hang.b, .int .i64 g.hang.c, .int .i64 g.adv, .slice Vd dls.length cd, .slice Vp pr5.length cp] 29) ∧ Hid (Blk wr gI #[.slice N1 g.ct.length n1, .slice N2 g.an.length n2, .int .i64 g.hang.a, .int .i64 g.hang.b, .int .i64 g.hang.c, .int .i64 g.adv, .slice N3 g.dl.length n3, .slice N4 g.pr.length n4] 29) ∧ Hid (Blk wr gR #[.slice none 0 0, .slice none 0 0, .int .i64 0, .int .i64 0, .int .i64 0, .int .i64 0, .slice none 0 0, .slice none 0 0] 29) ∧ Hid (Below w2.heap.size w2 wr)) (fun i _ => g.dl.length - (intOf i).toNat)
     case atStart => exact ⟨0, [], none, 0, rfl, Nat.zero_le _, Nat.zero_le _, lH_ rfl, HRC, HRA, HRP, lH_ (Kd.R_nil _ _ _ _ _), BgO, BgI, BgR, HX2⟩
     case round =>
      clear HRC HRA HRP BgO BgI BgR HX2
      obtain ⟨j, dls, Vd, cd, rfl, hj, hj7, HDL, HRC, HRA, HRP, HRD, BgO, BgI, BgR, HX2⟩ := hrel
      have i6 := BgI.out.cell 6
      simp only [gA_, gZ_, gS_] at i6
      by_cases hjt : j < g.dl.length ∧ j < 7
      ·have d1 : decide (j < g.dl.length) = true := decide_eq_true hjt.1
       have d2 : decide ((j : Int) < (g.dl.length : Int)) = true := decide_eq_true (by omega)
       have d3 : decide (j < 7) = true := decide_eq_true hjt.2
       have d4 : decide ((j : Int) < 7) = true := decide_eq_true (by omega)
       have HJL := lH_ hjt
       have b0 : (0 : Int) ≤ (j : Int) := by omega
       have b1 : (j : Int) < (g.dl.length : Int) := by omega
       obtain ⟨a3, c0_, c1_, c2_, hA3, hK, p0, p1, p2⟩ := el3 (d := kDl) rfl (HG.out.below HX.out).dl zDl j hjt.1
       obtain rfl : N3 = some a3 := hA3
       obtain ⟨Am, cm, hcs, hcm, hM⟩ := kDl_open hK
       simp only [List.cons.injEq, and_true] at hcs
       obtain ⟨rfl, rfl, rfl⟩ := hcs
       have hmm : (g.dl.getD j zDl).moves.length ≤ 9223372036854775807 := hM.2.1
       generalize g.dl.getD j zDl = d at *
       obtain ⟨m5, hm5⟩ : ∃ q, d.moves.take 45 = q := ⟨_, rfl⟩
       have hlm5 : m5.length = min 45 d.moves.length := by rw [← hm5, List.length_take]
       have mm5 : (if 45 < (d.moves.length : Int) then 45 else (d.moves.length : Int)) = (m5.length : Int) := by split <;> omega
       have HLm5 := lH_ (show m5.length ≤ 45 by omega)
       have HM5 := lH_ (show Kd.C kI2 w2 Am m5.length m5 by rw [← hm5]; exact C_cut hM 45)
       have hs := cut_to (P := Try.prog) 57 62 .i64 (by kernel_rfl) (Option.isSome_iff_exists.1 (by kernel_rfl)).choose_spec Am d.moves.length cm (m5.length : Int) (by omega) (by omega) hcm
       simp only [Int.toNat_natCast] at hs
       clear hK hM hm5 hlm5 hjt
       replace p0 := pw_cell_below HX2.out p0
       replace p1 := pw_cell_below HX2.out p1
       replace p2 := pw_cell_below HX2.out p2
       go_upto_region 10 with fail
       obtain ⟨u1, gD, hw0_, hg0_, XgD_, YgD_, _⟩ := new_box wr #[.int .i64 d.region, .int .i64 d.adv, .slice Am d.moves.length cm] 59
       rw [hw0_, hg0_]
       have EgD := lH_ (show gD = wr.heap.size + 0 by omega)
       clear hw0_ hg0_
       have HXu1 := lH_ (YgD_.out)
       have BgD := lH_ (XgD_.out)
       clear XgD_ YgD_
       have hb := HXu1.out
       have HWU := lH_ HXu1.out.size
       have HWZ := lH_ HX2.out.size
       have HRO := lH_ (Kd.R_below (Kd.R_mono (Kd.R_bound HRD.out) (fun _ h_ => h_.2.2.1)) hb : Kd.R kDl 59 u1 w2.heap.size (fun k_ => k_ < wr.heap.size) (.slice Vd dls.length cd) dls)
       have HGN := lH_ (show gO < wr.heap.size ∧ gI < wr.heap.size ∧ gR < wr.heap.size ∧ gD = wr.heap.size from ⟨BgO.out.lt, BgI.out.lt, BgR.out.lt, by have := EgD.out; omega⟩)
       replace HRC := lH_ (Kd.R_below HRC.out hb)
       replace HRA := lH_ (Kd.R_below HRA.out hb)
       replace HRP := lH_ (Kd.R_below HRP.out hb)
       replace HX2 := lH_ (bthen' HX2.out hb)
       replace BgO := lH_ (BgO.out.below hb)
       replace BgI := lH_ (BgI.out.below hb)
       replace BgR := lH_ (BgR.out.below hb)
       clear HRD i6 p0 p1 p2 hb HXu1 b0 b1
       have t2 := BgD.out.cell 2
       simp only [gA_, gZ_, gS_] at t2
       have y2 := pw_cell_below (below_alloc (Below.refl _ u1) (.cells #[] 62)) t2
       have hgu : gD < u1.heap.size := BgD.out.lt
       obtain ⟨vv, u2, hr, o1, o2, o3⟩ := append_all (d := kI2) (w0 := u1.alloc (.cells #[] 62)) (w := u1.alloc (.cells #[] 62)) 57 62 _ 16 (by kernel_rfl) infoMv rfl (by decide) (by omega) (fun h => h) (R_empty kI2 62 HWU.out) (Below.refl _ _) (Nat.le_trans HWU.out (by simp)) Am cm (Kd.C_below HM5.out (bthen' HX2.out (below_alloc (Below.refl _ u1) _))) (by have := HLm5.out; simp only [List.length_nil]; omega)
       rw [List.nil_append] at o1
       obtain ⟨vA, vc, rfl⟩ := Kd.R_slice o1
       have HMV := lH_ o1
       replace HRC := lH_ (Kd.R_mono (Kd.R_grown (Kd.R_below (Kd.R_bound HRC.out) (below_alloc (Below.refl _ u1) _)) o3 (fun k_ h_ e_ => by cases e_; exact Nat.lt_irrefl _ h_.2.2.1)) (fun _ h_ => h_.1))
       replace HRA := lH_ (Kd.R_mono (Kd.R_grown (Kd.R_below (Kd.R_bound HRA.out) (below_alloc (Below.refl _ u1) _)) o3 (fun k_ h_ e_ => by cases e_; exact Nat.lt_irrefl _ h_.2.2.1)) (fun _ h_ => h_.1))
       replace HRP := lH_ (Kd.R_mono (Kd.R_grown (Kd.R_below (Kd.R_bound HRP.out) (below_alloc (Below.refl _ u1) _)) o3 (fun k_ h_ e_ => by cases e_; exact Nat.lt_irrefl _ h_.2.2.1)) (fun _ h_ => h_.1))
       replace HRO := lH_ (Kd.R_mono (Kd.R_grown (Kd.R_below (Kd.R_bound HRO.out) (below_alloc (Below.refl _ u1) _)) o3 (fun k_ h_ e_ => by cases e_; exact Nat.lt_irrefl _ h_.2.2.1)) (fun _ h_ => h_.1))
       replace BgO := lH_ (show Blk u2 gO _ _ from (o3.block gO (BgO.out.alloc _).lt (fun e_ => by cases e_; exact Nat.lt_irrefl _ BgO.out.lt)).trans (BgO.out.alloc _))
       replace BgI := lH_ (show Blk u2 gI _ _ from (o3.block gI (BgI.out.alloc _).lt (fun e_ => by cases e_; exact Nat.lt_irrefl _ BgI.out.lt)).trans (BgI.out.alloc _))
       replace BgR := lH_ (show Blk u2 gR _ _ from (o3.block gR (BgR.out.alloc _).lt (fun e_ => by cases e_; exact Nat.lt_irrefl _ BgR.out.lt)).trans (BgR.out.alloc _))
       replace BgD := lH_ (show Blk u2 gD _ _ from (o3.block gD (BgD.out.alloc _).lt (fun e_ => by cases e_; exact Nat.lt_irrefl _ BgD.out.lt)).trans (BgD.out.alloc _))
       replace HX2 := lH_ ((bthen' HX2.out (below_alloc (Below.refl _ u1) _)).trans (o2.mono HWZ.out))
       have HHR := lH_ hr
       clear o1 o2 o3
       have x2 := BgD.out.cell 2
       simp only [gA_, gZ_, gS_] at x2
       have f2 := BgD.out.frozen 2
       go_upto_region 11 with (at_builtin; go_loud (refine Kd.event_run rfl (run_append_opU (by rfl) rfl rfl HHR.out) ?_))
       have HMV2 := lH_ (Kd.R_set HMV.out BgD.out (by decide) 2 (.slice vA m5.length vc))
       have HRO2 := lH_ (Kd.R_far (p := ⟨gD, 2, none⟩) HRO.out (fun k_ h_ => by have := HGN.out; show k_ ≠ gD; omega) (.slice vA m5.length vc))
       replace HRC := lH_ (Kd.R_set HRC.out BgD.out (by decide) 2 (.slice vA m5.length vc))
       replace HRA := lH_ (Kd.R_set HRA.out BgD.out (by decide) 2 (.slice vA m5.length vc))
       replace HRP := lH_ (Kd.R_set HRP.out BgD.out (by decide) 2 (.slice vA m5.length vc))
       replace BgO := lH_ (BgO.out.far (show gO ≠ gD by have := HGN.out; omega) 2 (.slice vA m5.length vc))
       replace BgI := lH_ (BgI.out.far (show gI ≠ gD by have := HGN.out; omega) 2 (.slice vA m5.length vc))
       replace BgR := lH_ (BgR.out.far (show gR ≠ gD by have := HGN.out; omega) 2 (.slice vA m5.length vc))
       replace HX2 := lH_ (bset HX2.out (show w2.heap.size ≤ gD by have := HWZ.out; have := HGN.out; omega) 2 (.slice vA m5.length vc))
       replace BgD := lH_ (show Blk _ gD #[.int .i64 d.region, .int .i64 d.adv, .slice vA m5.length vc] 59 from BgD.out.put 2 (.slice vA m5.length vc) rfl)
       clear HMV HRO HHR x2 f2 y2 t2 hgu
       generalize World.setCell _ _ _ = u3 at *
       have x0 := BgD.out.cell 0
       have x1 := BgD.out.cell 1
       have x2 := BgD.out.cell 2
       simp only [gA_, gZ_, gS_] at x0 x1 x2
       have y6 := BgO.out.cell 6
       simp only [gA_, gZ_, gS_] at y6
       have hp_ : kDl.M u3 w2.heap.size (fun k_ => True ∧ wr.heap.size ≤ k_ ∧ k_ < u3.heap.size ∧ ∃ q, q ∈ 62 :: kI2.E ∧ ∃ cells, u3.heap[k_]? = some (.cells cells q (0, 0))) ⟨d.region, d.adv, m5⟩ [.int .i64 d.region, .int .i64 d.adv, .slice vA m5.length vc] := kDl_mkM (Kd.R_lower (Kd.R_bound HMV2.out) HWZ.out)
       have hok_ : ∀ k_, (fun k_ => True ∧ wr.heap.size ≤ k_ ∧ k_ < u3.heap.size ∧ ∃ q, q ∈ 62 :: kI2.E ∧ ∃ cells, u3.heap[k_]? = some (.cells cells q (0, 0))) k_ → True ∧ some k_ ≠ (Value.slice Vd dls.length cd).ownBlock := fun k_ h_ => ⟨trivial, fun e_ => by have h1 := HRO2.out.1 k_ e_.symm; have h2 := h_.2.1; omega⟩
       have HP_ := lH_ hp_
       have HO_ := lH_ hok_
       have HRD2 := lH_ (Kd.R_mono HRO2.out (fun _ _ => trivial) : Kd.R kDl 59 u3 w2.heap.size (fun _ => True) (.slice Vd dls.length cd) dls)
       clear hp_ hok_ HRO2
       go_wp2_with (at_builtin; go_loud (refine Kd.R_append kDl (W := u3) (w0 := w2) w2.heap.size rfl (.tmp 88) (.tmp 90) 26 59 _ 40 rfl (by kernel_rfl) infoDl rfl (show 0 < kDl.sz by decide) (by omega) (.slice Vd dls.length cd) dls ⟨d.region, d.adv, m5⟩ [.int .i64 d.region, .int .i64 d.adv, .slice vA m5.length vc] (fun _ => True) (fun k_ => True ∧ wr.heap.size ≤ k_ ∧ k_ < u3.heap.size ∧ ∃ q, q ∈ 62 :: kI2.E ∧ ∃ cells, u3.heap[k_]? = some (.cells cells q (0, 0))) rfl rfl HP_.out HO_.out (fun _ _ => trivial) HRD2.out HX2.out HX2.out.size (by have := HDL.out; omega) ?_); intro v4 w4 hR4 hB4 hG4 hat4; obtain ⟨A4, c4, rfl⟩ := Kd.R_slice hR4; have HR4 := lH_ hR4; have HB4 := lH_ hB4; have BgO4 := lH_ (show Blk w4 gO _ _ from (hG4.block gO BgO.out.lt (Kd.R_ne HRD2.out BgO.out (by decide))).trans BgO.out); have BgI4 := lH_ (show Blk w4 gI _ _ from (hG4.block gI BgI.out.lt (Kd.R_ne HRD2.out BgI.out (by decide))).trans BgI.out); have BgR4 := lH_ (show Blk w4 gR _ _ from (hG4.block gR BgR.out.lt (Kd.R_ne HRD2.out BgR.out (by decide))).trans BgR.out); have HRC4 := lH_ (R_grown_types HRC.out HRD2.out (by decide) hG4); have HRA4 := lH_ (R_grown_types HRA.out HRD2.out (by decide) hG4); have HRP4 := lH_ (R_grown_types HRP.out HRD2.out (by decide) hG4); have y6' := BgO4.out.cell 6; simp only [gA_, gZ_, gS_] at y6'; have k6' := BgO4.out.frozen 6; clear hR4 hB4 hG4 hat4 y6 x0 x1 x2)
       obtain ⟨d2s, hd2⟩ : ∃ q, dls ++ [(⟨d.region, d.adv, m5⟩ : Dl)] = q := ⟨_, rfl⟩
       have HD2L := lH_ (show d2s.length = j + 1 by rw [← hd2, List.length_append, HDL.out]; rfl)
       have hd3 : dls.length + 1 = d2s.length := by rw [HD2L.out, HDL.out]
       rw [hd2] at HR4
       rw [hd3]
       clear hd2 hd3
       exact ⟨⟨j + 1, d2s, A4, c4, by go_num, by have := HJL.out; omega, by have := HJL.out; omega, HD2L, lH_ (Kd.R_set HRC4.out BgO4.out (by decide) 6 (.slice A4 d2s.length c4)), lH_ (Kd.R_set HRA4.out BgO4.out (by decide) 6 (.slice A4 d2s.length c4)), lH_ (Kd.R_set HRP4.out BgO4.out (by decide) 6 (.slice A4 d2s.length c4)), lH_ (Kd.R_set HR4.out BgO4.out (by decide) 6 (.slice A4 d2s.length c4)), lH_ (BgO4.out.put 6 (.slice A4 d2s.length c4) rfl), lH_ (BgI4.out.far (Ne.symm HOI.out.1) 6 (.slice A4 d2s.length c4)), lH_ (BgR4.out.far (Ne.symm HOI.out.2) 6 (.slice A4 d2s.length c4)), lH_ (bset HB4.out HLO.out 6 (.slice A4 d2s.length c4))⟩, by have := HJL.out; simp [intOf]; omega⟩
      ·by_cases hk2 : j < g.dl.length
       ·have d1 : decide (j < g.dl.length) = true := decide_eq_true hk2
        have d2 : decide ((j : Int) < (g.dl.length : Int)) = true := decide_eq_true (by omega)
        have d3 : decide (j < 7) = false := decide_eq_false (by omega)
        have d4 : decide ((j : Int) < 7) = false := decide_eq_false (by omega)
        have r0 := BgO.out.cell 0
        have r1 := BgO.out.cell 1
        have r2 := BgO.out.cell 2
        have r3 := BgO.out.cell 3
        have r4 := BgO.out.cell 4
        have r5 := BgO.out.cell 5
        have r6 := BgO.out.cell 6
        have r7 := BgO.out.cell 7
        simp only [gA_, gZ_, gS_] at r0 r1 r2 r3 r4 r5 r6 r7
        have f0 := BgR.out.frozen 0
        have f1 := BgR.out.frozen 1
        have f2 := BgR.out.frozen 2
        have f3 := BgR.out.frozen 3
        have f4 := BgR.out.frozen 4
        have f5 := BgR.out.frozen 5
        have f6 := BgR.out.frozen 6
        have f7 := BgR.out.frozen 7
        have x0 := BgR.out.cell 0
        have x1 := BgR.out.cell 1
        have x2 := BgR.out.cell 2
        have x3 := BgR.out.cell 3
        have x4 := BgR.out.cell 4
        have x5 := BgR.out.cell 5
        have x6 := BgR.out.cell 6
        have x7 := BgR.out.cell 7
        simp only [gA_, gZ_, gS_] at x0 x1 x2 x3 x4 x5 x6 x7
        go_wp2_with fail
        refine bodyPost_ret (res_c (g := gR) rfl _ _ _ _ _ rfl ((((((((BgR.out.put 0 _ rfl).put 1 _ rfl).put 2 _ rfl).put 3 _ rfl).put 4 _ rfl).put 5 _ rfl).put 6 _ rfl).put 7 _ rfl) rfl Try.underlying29 (by kernel_rfl)) rfl ⟨⟨cts, an7, g.hang, g.adv, dls, pr5⟩, ⟨Vc, cc, Va, ca, Vd, cd, Vp, cp⟩, rfl, ⟨Kd.R_lower (R_put8 HRC.out BgR.out (by decide) _ _ _ _ _ _ _ _) HX.out.size, Kd.R_lower (R_put8 HRA.out BgR.out (by decide) _ _ _ _ _ _ _ _) HX.out.size, Kd.R_lower (R_put8 HRD.out BgR.out (by decide) _ _ _ _ _ _ _ _) HX.out.size, Kd.R_lower (R_put8 HRP.out BgR.out (by decide) _ _ _ _ _ _ _ _) HX.out.size⟩, bset (bset (bset (bset (bset (bset (bset (bset (bthen' HX.out HX2.out) HRW.out 0 _) HRW.out 1 _) HRW.out 2 _) HRW.out 3 _) HRW.out 4 _) HRW.out 5 _) HRW.out 6 _) HRW.out 7 _⟩
       ·have d1 : decide (j < g.dl.length) = false := decide_eq_false hk2
        have d2 : decide ((j : Int) < (g.dl.length : Int)) = false := decide_eq_false (by omega)
        have r0 := BgO.out.cell 0
        have r1 := BgO.out.cell 1
        have r2 := BgO.out.cell 2
        have r3 := BgO.out.cell 3
        have r4 := BgO.out.cell 4
        have r5 := BgO.out.cell 5
        have r6 := BgO.out.cell 6
        have r7 := BgO.out.cell 7
        simp only [gA_, gZ_, gS_] at r0 r1 r2 r3 r4 r5 r6 r7
        have f0 := BgR.out.frozen 0
        have f1 := BgR.out.frozen 1
        have f2 := BgR.out.frozen 2
        have f3 := BgR.out.frozen 3
        have f4 := BgR.out.frozen 4
        have f5 := BgR.out.frozen 5
        have f6 := BgR.out.frozen 6
        have f7 := BgR.out.frozen 7
        have x0 := BgR.out.cell 0
        have x1 := BgR.out.cell 1
        have x2 := BgR.out.cell 2
        have x3 := BgR.out.cell 3
        have x4 := BgR.out.cell 4
        have x5 := BgR.out.cell 5
        have x6 := BgR.out.cell 6
        have x7 := BgR.out.cell 7
        simp only [gA_, gZ_, gS_] at x0 x1 x2 x3 x4 x5 x6 x7
        go_wp2_with fail
        refine bodyPost_ret (res_c (g := gR) rfl _ _ _ _ _ rfl ((((((((BgR.out.put 0 _ rfl).put 1 _ rfl).put 2 _ rfl).put 3 _ rfl).put 4 _ rfl).put 5 _ rfl).put 6 _ rfl).put 7 _ rfl) rfl Try.underlying29 (by kernel_rfl)) rfl ⟨⟨cts, an7, g.hang, g.adv, dls, pr5⟩, ⟨Vc, cc, Va, ca, Vd, cd, Vp, cp⟩, rfl, ⟨Kd.R_lower (R_put8 HRC.out BgR.out (by decide) _ _ _ _ _ _ _ _) HX.out.size, Kd.R_lower (R_put8 HRA.out BgR.out (by decide) _ _ _ _ _ _ _ _) HX.out.size, Kd.R_lower (R_put8 HRD.out BgR.out (by decide) _ _ _ _ _ _ _ _) HX.out.size, Kd.R_lower (R_put8 HRP.out BgR.out (by decide) _ _ _ _ _ _ _ _) HX.out.size⟩, bset (bset (bset (bset (bset (bset (bset (bset (bthen' HX.out HX2.out) HRW.out 0 _) HRW.out 1 _) HRW.out 2 _) HRW.out 3 _) HRW.out 4 _) HRW.out 5 _) HRW.out 6 _) HRW.out 7 _⟩
    ·have d1 : decide (k < g.ct.length) = false := decide_eq_false hk2
     have d2 : decide ((k : Int) < (g.ct.length : Int)) = false := decide_eq_false (by omega)
     go_wp2_with fail
     clear i0 d1 d2
     go_loopw [5] (fun i wr => ∃ (j : Nat) (dls : List Dl) (Vd : Option Addr) (cd : Nat), i = .int .i64 (j : Int) ∧ j ≤ g.dl.length ∧ j ≤ 7 ∧ Hid (dls.length = j) ∧ Hid (Kd.R kCt 71 wr w2.heap.size (fun _ => True) (.slice Vc cts.length cc) cts) ∧ Hid (Kd.R kI3 25 wr w2.heap.size (fun _ => True) (.slice Va an7.length ca) an7) ∧ Hid (Kd.R kI2 41 wr w2.heap.size (fun _ => True) (.slice Vp pr5.length cp) pr5) ∧ Hid (Kd.R kDl 59 wr w2.heap.size (fun _ => True) (.slice Vd dls.length cd) dls) ∧ Hid (Blk wr gO #[.slice Vc cts.length cc, .slice Va an7.length ca, .int .i64 g.hang.a, .int .i64 g.hang.b, .int .i64 g.hang.c, .int .i64 g.adv, .slice Vd dls.length cd, .slice Vp pr5.length cp] 29) ∧ Hid (Blk wr gI #[.slice N1 g.ct.length n1, .slice N2 g.an.length n2, .int .i64 g.hang.a, .int .i64 g.hang.b, .int .i64 g.hang.c, .int .i64 g.adv, .slice N3 g.dl.length n3, .slice N4 g.pr.length n4] 29) ∧ Hid (Blk wr gR #[.slice none 0 0, .slice none 0 0, .int .i64 0, .int .i64 0, .int .i64 0, .int .i64 0, .slice none 0 0, .slice none 0 0] 29) ∧ Hid (Below w2.heap.size w2 wr)) (fun i _ => g.dl.length - (intOf i).toNat)
     case atStart => exact ⟨0, [], none, 0, rfl, Nat.zero_le _, Nat.zero_le _, lH_ rfl, HRC, HRA, HRP, lH_ (Kd.R_nil _ _ _ _ _), BgO, BgI, BgR, HX2⟩
     case round =>
      clear HRC HRA HRP BgO BgI BgR HX2
      obtain ⟨j, dls, Vd, cd, rfl, hj, hj7, HDL, HRC, HRA, HRP, HRD, BgO, BgI, BgR, HX2⟩ := hrel
      have i6 := BgI.out.cell 6
      simp only [gA_, gZ_, gS_] at i6
      by_cases hjt : j < g.dl.length ∧ j < 7
      ·have d1 : decide (j < g.dl.length) = true := decide_eq_true hjt.1
       have d2 : decide ((j : Int) < (g.dl.length : Int)) = true := decide_eq_true (by omega)
       have d3 : decide (j < 7) = true := decide_eq_true hjt.2
       have d4 : decide ((j : Int) < 7) = true := decide_eq_true (by omega)
       have HJL := lH_ hjt
       have b0 : (0 : Int) ≤ (j : Int) := by omega
       have b1 : (j : Int) < (g.dl.length : Int) := by omega
       obtain ⟨a3, c0_, c1_, c2_, hA3, hK, p0, p1, p2⟩ := el3 (d := kDl) rfl (HG.out.below HX.out).dl zDl j hjt.1
       obtain rfl : N3 = some a3 := hA3
       obtain ⟨Am, cm, hcs, hcm, hM⟩ := kDl_open hK
       simp only [List.cons.injEq, and_true] at hcs
       obtain ⟨rfl, rfl, rfl⟩ := hcs
       have hmm : (g.dl.getD j zDl).moves.length ≤ 9223372036854775807 := hM.2.1
       generalize g.dl.getD j zDl = d at *
       obtain ⟨m5, hm5⟩ : ∃ q, d.moves.take 45 = q := ⟨_, rfl⟩
       have hlm5 : m5.length = min 45 d.moves.length := by rw [← hm5, List.length_take]
       have mm5 : (if 45 < (d.moves.length : Int) then 45 else (d.moves.length : Int)) = (m5.length : Int) := by split <;> omega
       have HLm5 := lH_ (show m5.length ≤ 45 by omega)
       have HM5 := lH_ (show Kd.C kI2 w2 Am m5.length m5 by rw [← hm5]; exact C_cut hM 45)
       have hs := cut_to (P := Try.prog) 57 62 .i64 (by kernel_rfl) (Option.isSome_iff_exists.1 (by kernel_rfl)).choose_spec Am d.moves.length cm (m5.length : Int) (by omega) (by omega) hcm
       simp only [Int.toNat_natCast] at hs
       clear hK hM hm5 hlm5 hjt
       replace p0 := pw_cell_below HX2.out p0
       replace p1 := pw_cell_below HX2.out p1
       replace p2 := pw_cell_below HX2.out p2
       go_upto_region 10 with fail
       obtain ⟨u1, gD, hw0_, hg0_, XgD_, YgD_, _⟩ := new_box wr #[.int .i64 d.region, .int .i64 d.adv, .slice Am d.moves.length cm] 59
       rw [hw0_, hg0_]
       have EgD := lH_ (show gD = wr.heap.size + 0 by omega)
       clear hw0_ hg0_
       have HXu1 := lH_ (YgD_.out)
       have BgD := lH_ (XgD_.out)
       clear XgD_ YgD_
       have hb := HXu1.out
       have HWU := lH_ HXu1.out.size
       have HWZ := lH_ HX2.out.size
       have HRO := lH_ (Kd.R_below (Kd.R_mono (Kd.R_bound HRD.out) (fun _ h_ => h_.2.2.1)) hb : Kd.R kDl 59 u1 w2.heap.size (fun k_ => k_ < wr.heap.size) (.slice Vd dls.length cd) dls)
       have HGN := lH_ (show gO < wr.heap.size ∧ gI < wr.heap.size ∧ gR < wr.heap.size ∧ gD = wr.heap.size from ⟨BgO.out.lt, BgI.out.lt, BgR.out.lt, by have := EgD.out; omega⟩)
       replace HRC := lH_ (Kd.R_below HRC.out hb)
       replace HRA := lH_ (Kd.R_below HRA.out hb)
       replace HRP := lH_ (Kd.R_below HRP.out hb)
       replace HX2 := lH_ (bthen' HX2.out hb)
       replace BgO := lH_ (BgO.out.below hb)
       replace BgI := lH_ (BgI.out.below hb)
       replace BgR := lH_ (BgR.out.below hb)
       clear HRD i6 p0 p1 p2 hb HXu1 b0 b1
       have t2 := BgD.out.cell 2
       simp only [gA_, gZ_, gS_] at t2
       have y2 := pw_cell_below (below_alloc (Below.refl _ u1) (.cells #[] 62)) t2
       have hgu : gD < u1.heap.size := BgD.out.lt
       obtain ⟨vv, u2, hr, o1, o2, o3⟩ := append_all (d := kI2) (w0 := u1.alloc (.cells #[] 62)) (w := u1.alloc (.cells #[] 62)) 57 62 _ 16 (by kernel_rfl) infoMv rfl (by decide) (by omega) (fun h => h) (R_empty kI2 62 HWU.out) (Below.refl _ _) (Nat.le_trans HWU.out (by simp)) Am cm (Kd.C_below HM5.out (bthen' HX2.out (below_alloc (Below.refl _ u1) _))) (by have := HLm5.out; simp only [List.length_nil]; omega)
       rw [List.nil_append] at o1
       obtain ⟨vA, vc, rfl⟩ := Kd.R_slice o1
       have HMV := lH_ o1
       replace HRC := lH_ (Kd.R_mono (Kd.R_grown (Kd.R_below (Kd.R_bound HRC.out) (below_alloc (Below.refl _ u1) _)) o3 (fun k_ h_ e_ => by cases e_; exact Nat.lt_irrefl _ h_.2.2.1)) (fun _ h_ => h_.1))
       replace HRA := lH_ (Kd.R_mono (Kd.R_grown (Kd.R_below (Kd.R_bound HRA.out) (below_alloc (Below.refl _ u1) _)) o3 (fun k_ h_ e_ => by cases e_; exact Nat.lt_irrefl _ h_.2.2.1)) (fun _ h_ => h_.1))
       replace HRP := lH_ (Kd.R_mono (Kd.R_grown (Kd.R_below (Kd.R_bound HRP.out) (below_alloc (Below.refl _ u1) _)) o3 (fun k_ h_ e_ => by cases e_; exact Nat.lt_irrefl _ h_.2.2.1)) (fun _ h_ => h_.1))
       replace HRO := lH_ (Kd.R_mono (Kd.R_grown (Kd.R_below (Kd.R_bound HRO.out) (below_alloc (Below.refl _ u1) _)) o3 (fun k_ h_ e_ => by cases e_; exact Nat.lt_irrefl _ h_.2.2.1)) (fun _ h_ => h_.1))
       replace BgO := lH_ (show Blk u2 gO _ _ from (o3.block gO (BgO.out.alloc _).lt (fun e_ => by cases e_; exact Nat.lt_irrefl _ BgO.out.lt)).trans (BgO.out.alloc _))
       replace BgI := lH_ (show Blk u2 gI _ _ from (o3.block gI (BgI.out.alloc _).lt (fun e_ => by cases e_; exact Nat.lt_irrefl _ BgI.out.lt)).trans (BgI.out.alloc _))
       replace BgR := lH_ (show Blk u2 gR _ _ from (o3.block gR (BgR.out.alloc _).lt (fun e_ => by cases e_; exact Nat.lt_irrefl _ BgR.out.lt)).trans (BgR.out.alloc _))
       replace BgD := lH_ (show Blk u2 gD _ _ from (o3.block gD (BgD.out.alloc _).lt (fun e_ => by cases e_; exact Nat.lt_irrefl _ BgD.out.lt)).trans (BgD.out.alloc _))
       replace HX2 := lH_ ((bthen' HX2.out (below_alloc (Below.refl _ u1) _)).trans (o2.mono HWZ.out))
       have HHR := lH_ hr
       clear o1 o2 o3
       have x2 := BgD.out.cell 2
       simp only [gA_, gZ_, gS_] at x2
       have f2 := BgD.out.frozen 2
       go_upto_region 11 with (at_builtin; go_loud (refine Kd.event_run rfl (run_append_opU (by rfl) rfl rfl HHR.out) ?_))
       have HMV2 := lH_ (Kd.R_set HMV.out BgD.out (by decide) 2 (.slice vA m5.length vc))
       have HRO2 := lH_ (Kd.R_far (p := ⟨gD, 2, none⟩) HRO.out (fun k_ h_ => by have := HGN.out; show k_ ≠ gD; omega) (.slice vA m5.length vc))
       replace HRC := lH_ (Kd.R_set HRC.out BgD.out (by decide) 2 (.slice vA m5.length vc))
       replace HRA := lH_ (Kd.R_set HRA.out BgD.out (by decide) 2 (.slice vA m5.length vc))
       replace HRP := lH_ (Kd.R_set HRP.out BgD.out (by decide) 2 (.slice vA m5.length vc))
       replace BgO := lH_ (BgO.out.far (show gO ≠ gD by have := HGN.out; omega) 2 (.slice vA m5.length vc))
       replace BgI := lH_ (BgI.out.far (show gI ≠ gD by have := HGN.out; omega) 2 (.slice vA m5.length vc))
       replace BgR := lH_ (BgR.out.far (show gR ≠ gD by have := HGN.out; omega) 2 (.slice vA m5.length vc))
       replace HX2 := lH_ (bset HX2.out (show w2.heap.size ≤ gD by have := HWZ.out; have := HGN.out; omega) 2 (.slice vA m5.length vc))
       replace BgD := lH_ (show Blk _ gD #[.int .i64 d.region, .int .i64 d.adv, .slice vA m5.length vc] 59 from BgD.out.put 2 (.slice vA m5.length vc) rfl)
       clear HMV HRO HHR x2 f2 y2 t2 hgu
       generalize World.setCell _ _ _ = u3 at *
       have x0 := BgD.out.cell 0
       have x1 := BgD.out.cell 1
       have x2 := BgD.out.cell 2
       simp only [gA_, gZ_, gS_] at x0 x1 x2
       have y6 := BgO.out.cell 6
       simp only [gA_, gZ_, gS_] at y6
       have hp_ : kDl.M u3 w2.heap.size (fun k_ => True ∧ wr.heap.size ≤ k_ ∧ k_ < u3.heap.size ∧ ∃ q, q ∈ 62 :: kI2.E ∧ ∃ cells, u3.heap[k_]? = some (.cells cells q (0, 0))) ⟨d.region, d.adv, m5⟩ [.int .i64 d.region, .int .i64 d.adv, .slice vA m5.length vc] := kDl_mkM (Kd.R_lower (Kd.R_bound HMV2.out) HWZ.out)
       have hok_ : ∀ k_, (fun k_ => True ∧ wr.heap.size ≤ k_ ∧ k_ < u3.heap.size ∧ ∃ q, q ∈ 62 :: kI2.E ∧ ∃ cells, u3.heap[k_]? = some (.cells cells q (0, 0))) k_ → True ∧ some k_ ≠ (Value.slice Vd dls.length cd).ownBlock := fun k_ h_ => ⟨trivial, fun e_ => by have h1 := HRO2.out.1 k_ e_.symm; have h2 := h_.2.1; omega⟩
       have HP_ := lH_ hp_
       have HO_ := lH_ hok_
       have HRD2 := lH_ (Kd.R_mono HRO2.out (fun _ _ => trivial) : Kd.R kDl 59 u3 w2.heap.size (fun _ => True) (.slice Vd dls.length cd) dls)
       clear hp_ hok_ HRO2
       go_wp2_with (at_builtin; go_loud (refine Kd.R_append kDl (W := u3) (w0 := w2) w2.heap.size rfl (.tmp 88) (.tmp 90) 26 59 _ 40 rfl (by kernel_rfl) infoDl rfl (show 0 < kDl.sz by decide) (by omega) (.slice Vd dls.length cd) dls ⟨d.region, d.adv, m5⟩ [.int .i64 d.region, .int .i64 d.adv, .slice vA m5.length vc] (fun _ => True) (fun k_ => True ∧ wr.heap.size ≤ k_ ∧ k_ < u3.heap.size ∧ ∃ q, q ∈ 62 :: kI2.E ∧ ∃ cells, u3.heap[k_]? = some (.cells cells q (0, 0))) rfl rfl HP_.out HO_.out (fun _ _ => trivial) HRD2.out HX2.out HX2.out.size (by have := HDL.out; omega) ?_); intro v4 w4 hR4 hB4 hG4 hat4; obtain ⟨A4, c4, rfl⟩ := Kd.R_slice hR4; have HR4 := lH_ hR4; have HB4 := lH_ hB4; have BgO4 := lH_ (show Blk w4 gO _ _ from (hG4.block gO BgO.out.lt (Kd.R_ne HRD2.out BgO.out (by decide))).trans BgO.out); have BgI4 := lH_ (show Blk w4 gI _ _ from (hG4.block gI BgI.out.lt (Kd.R_ne HRD2.out BgI.out (by decide))).trans BgI.out); have BgR4 := lH_ (show Blk w4 gR _ _ from (hG4.block gR BgR.out.lt (Kd.R_ne HRD2.out BgR.out (by decide))).trans BgR.out); have HRC4 := lH_ (R_grown_types HRC.out HRD2.out (by decide) hG4); have HRA4 := lH_ (R_grown_types HRA.out HRD2.out (by decide) hG4); have HRP4 := lH_ (R_grown_types HRP.out HRD2.out (by decide) hG4); have y6' := BgO4.out.cell 6; simp only [gA_, gZ_, gS_] at y6'; have k6' := BgO4.out.frozen 6; clear hR4 hB4 hG4 hat4 y6 x0 x1 x2)
       obtain ⟨d2s, hd2⟩ : ∃ q, dls ++ [(⟨d.region, d.adv, m5⟩ : Dl)] = q := ⟨_, rfl⟩
       have HD2L := lH_ (show d2s.length = j + 1 by rw [← hd2, List.length_append, HDL.out]; rfl)
       have hd3 : dls.length + 1 = d2s.length := by rw [HD2L.out, HDL.out]
       rw [hd2] at HR4
       rw [hd3]
       clear hd2 hd3
       exact ⟨⟨j + 1, d2s, A4, c4, by go_num, by have := HJL.out; omega, by have := HJL.out; omega, HD2L, lH_ (Kd.R_set HRC4.out BgO4.out (by decide) 6 (.slice A4 d2s.length c4)), lH_ (Kd.R_set HRA4.out BgO4.out (by decide) 6 (.slice A4 d2s.length c4)), lH_ (Kd.R_set HRP4.out BgO4.out (by decide) 6 (.slice A4 d2s.length c4)), lH_ (Kd.R_set HR4.out BgO4.out (by decide) 6 (.slice A4 d2s.length c4)), lH_ (BgO4.out.put 6 (.slice A4 d2s.length c4) rfl), lH_ (BgI4.out.far (Ne.symm HOI.out.1) 6 (.slice A4 d2s.length c4)), lH_ (BgR4.out.far (Ne.symm HOI.out.2) 6 (.slice A4 d2s.length c4)), lH_ (bset HB4.out HLO.out 6 (.slice A4 d2s.length c4))⟩, by have := HJL.out; simp [intOf]; omega⟩
      ·by_cases hk2 : j < g.dl.length
       ·have d1 : decide (j < g.dl.length) = true := decide_eq_true hk2
        have d2 : decide ((j : Int) < (g.dl.length : Int)) = true := decide_eq_true (by omega)
        have d3 : decide (j < 7) = false := decide_eq_false (by omega)
        have d4 : decide ((j : Int) < 7) = false := decide_eq_false (by omega)
        have r0 := BgO.out.cell 0
        have r1 := BgO.out.cell 1
        have r2 := BgO.out.cell 2
        have r3 := BgO.out.cell 3
        have r4 := BgO.out.cell 4
        have r5 := BgO.out.cell 5
        have r6 := BgO.out.cell 6
        have r7 := BgO.out.cell 7
        simp only [gA_, gZ_, gS_] at r0 r1 r2 r3 r4 r5 r6 r7
        have f0 := BgR.out.frozen 0
        have f1 := BgR.out.frozen 1
        have f2 := BgR.out.frozen 2
        have f3 := BgR.out.frozen 3
        have f4 := BgR.out.frozen 4
        have f5 := BgR.out.frozen 5
        have f6 := BgR.out.frozen 6
        have f7 := BgR.out.frozen 7
        have x0 := BgR.out.cell 0
        have x1 := BgR.out.cell 1
        have x2 := BgR.out.cell 2
        have x3 := BgR.out.cell 3
        have x4 := BgR.out.cell 4
        have x5 := BgR.out.cell 5
        have x6 := BgR.out.cell 6
        have x7 := BgR.out.cell 7
        simp only [gA_, gZ_, gS_] at x0 x1 x2 x3 x4 x5 x6 x7
        go_wp2_with fail
        refine bodyPost_ret (res_c (g := gR) rfl _ _ _ _ _ rfl ((((((((BgR.out.put 0 _ rfl).put 1 _ rfl).put 2 _ rfl).put 3 _ rfl).put 4 _ rfl).put 5 _ rfl).put 6 _ rfl).put 7 _ rfl) rfl Try.underlying29 (by kernel_rfl)) rfl ⟨⟨cts, an7, g.hang, g.adv, dls, pr5⟩, ⟨Vc, cc, Va, ca, Vd, cd, Vp, cp⟩, rfl, ⟨Kd.R_lower (R_put8 HRC.out BgR.out (by decide) _ _ _ _ _ _ _ _) HX.out.size, Kd.R_lower (R_put8 HRA.out BgR.out (by decide) _ _ _ _ _ _ _ _) HX.out.size, Kd.R_lower (R_put8 HRD.out BgR.out (by decide) _ _ _ _ _ _ _ _) HX.out.size, Kd.R_lower (R_put8 HRP.out BgR.out (by decide) _ _ _ _ _ _ _ _) HX.out.size⟩, bset (bset (bset (bset (bset (bset (bset (bset (bthen' HX.out HX2.out) HRW.out 0 _) HRW.out 1 _) HRW.out 2 _) HRW.out 3 _) HRW.out 4 _) HRW.out 5 _) HRW.out 6 _) HRW.out 7 _⟩
       ·have d1 : decide (j < g.dl.length) = false := decide_eq_false hk2
        have d2 : decide ((j : Int) < (g.dl.length : Int)) = false := decide_eq_false (by omega)
        have r0 := BgO.out.cell 0
        have r1 := BgO.out.cell 1
        have r2 := BgO.out.cell 2
        have r3 := BgO.out.cell 3
        have r4 := BgO.out.cell 4
        have r5 := BgO.out.cell 5
        have r6 := BgO.out.cell 6
        have r7 := BgO.out.cell 7
        simp only [gA_, gZ_, gS_] at r0 r1 r2 r3 r4 r5 r6 r7
        have f0 := BgR.out.frozen 0
        have f1 := BgR.out.frozen 1
        have f2 := BgR.out.frozen 2
        have f3 := BgR.out.frozen 3
        have f4 := BgR.out.frozen 4
        have f5 := BgR.out.frozen 5
        have f6 := BgR.out.frozen 6
        have f7 := BgR.out.frozen 7
        have x0 := BgR.out.cell 0
        have x1 := BgR.out.cell 1
        have x2 := BgR.out.cell 2
        have x3 := BgR.out.cell 3
        have x4 := BgR.out.cell 4
        have x5 := BgR.out.cell 5
        have x6 := BgR.out.cell 6
        have x7 := BgR.out.cell 7
        simp only [gA_, gZ_, gS_] at x0 x1 x2 x3 x4 x5 x6 x7
        go_wp2_with fail
        refine bodyPost_ret (res_c (g := gR) rfl _ _ _ _ _ rfl ((((((((BgR.out.put 0 _ rfl).put 1 _ rfl).put 2 _ rfl).put 3 _ rfl).put 4 _ rfl).put 5 _ rfl).put 6 _ rfl).put 7 _ rfl) rfl Try.underlying29 (by kernel_rfl)) rfl ⟨⟨cts, an7, g.hang, g.adv, dls, pr5⟩, ⟨Vc, cc, Va, ca, Vd, cd, Vp, cp⟩, rfl, ⟨Kd.R_lower (R_put8 HRC.out BgR.out (by decide) _ _ _ _ _ _ _ _) HX.out.size, Kd.R_lower (R_put8 HRA.out BgR.out (by decide) _ _ _ _ _ _ _ _) HX.out.size, Kd.R_lower (R_put8 HRD.out BgR.out (by decide) _ _ _ _ _ _ _ _) HX.out.size, Kd.R_lower (R_put8 HRP.out BgR.out (by decide) _ _ _ _ _ _ _ _) HX.out.size⟩, bset (bset (bset (bset (bset (bset (bset (bset (bthen' HX.out HX2.out) HRW.out 0 _) HRW.out 1 _) HRW.out 2 _) HRW.out 3 _) HRW.out 4 _) HRW.out 5 _) HRW.out 6 _) HRW.out 7 _⟩
end Go.Proofs.Ythpccdhmppbkfaa
