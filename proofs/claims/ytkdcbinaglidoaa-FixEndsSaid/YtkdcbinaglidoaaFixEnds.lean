/- The walk of FixEnds. -/
import Derived.Test.YtkdcbinaglidoaaFixEndsPure
import Derived.Test.YtkdcbinaglidoaaFixRounds
import Derived.Test.YtkdcbinaglidoaaWInvWords
import Derived.IntWalk
set_option linter.unusedVariables false
set_option linter.unusedSimpArgs false
namespace Go.Proofs.Ytkdcbinaglidoaa
open Go.RowKit Go.Proofs.YtkdcbinaglidoaaW.PrintWords Go.Proofs.YtkdcbinaglidoaaW.PrintLast

theorem tmod_small' (a : Int) {m : Int} (h : 1 ≤ m) : -m < a.tmod m ∧ a.tmod m < m := ⟨(mod_eq h).1, (mod_eq h).2.1⟩

theorem bounds_u16' {n : Int} (h : (Lit.int .u16 n).wf = true) : 0 ≤ n ∧ n ≤ 65535 := by
  simp [Lit.wf, IntKind.min, IntKind.max, IntKind.signed, IntKind.bits] at h
  omega

def fixEnds.T3 : Bool × List (List Nat × List Nat) := (true, [([], []), ([0], [0]), ([1], [1]), ([], []), ([3], [3]), ([4], [4]), ([2, 5], [2, 5]), ([], []), ([], []), ([8], [8]), ([7, 9], [7, 9]), ([], []), ([11], [11]), ([12], [12]), ([10, 13], [10, 13]), ([], []), ([], []), ([15, 6, 0, 1, 2, 3, 4, 5, 6, 15, 16], [6, 15]), ([16, 14, 17, 0, 1, 2, 3, 4, 5, 6, 7, 8, 9, 10, 11, 12, 13, 14, 15, 16, 17], [14, 16])])
def fixEnds.B3 : List Nat := [0, 1, 3, 0, 8, 24, 63, 0, 0, 256, 896, 0, 2048, 6144, 16256, 0, 0, 98431, 262143]
theorem fixEnds.tab3 : rtab .any (opsOf Try.f10 3) = fixEnds.T3 := by kernel_rfl
theorem fixEnds.bits3 : waitsOk fixEnds.T3.2 fixEnds.B3 = true := by kernel_rfl

set_option maxRecDepth 100000 in
set_option maxHeartbeats 4000000 in
theorem fixEnds_walk (y0 y1 wd t0 t1 : Int) (w : World) (wy0 : (Lit.int .i64 y0).wf = true) (wy1 : (Lit.int .i64 y1).wf = true) (wwd : (Lit.int .u16 wd).wf = true) (wt0 : (Lit.int .u16 t0).wf = true) (wt1 : (Lit.int .u16 t1).wf = true) :
    Calls Try.prog 10 #[.agg #[.int .i64 y0, .int .i64 y1], .int .u16 wd, .agg #[.int .u16 t0, .int .u16 t1]] w fun e w' => e = .returned (.bool true) ∧ Below w.heap.size w w' := by
  obtain ⟨d1, d2⟩ := bounds_u16' wwd
  obtain ⟨s1, s2⟩ := bounds_u16' wt0
  obtain ⟨s3, s4⟩ := bounds_u16' wt1
  clear wy0 wy1 wwd wt0 wt1
  have A1 : Blk ((w.alloc (.cells #[.int .i64 y0, .int .i64 y1] 23)).alloc (.cells #[.int .u16 t0, .int .u16 t1] 50)) w.heap.size #[.int .i64 y0, .int .i64 y1] 23 := (Blk.new w _ _ rfl).alloc _
  have A2 : Blk ((w.alloc (.cells #[.int .i64 y0, .int .i64 y1] 23)).alloc (.cells #[.int .u16 t0, .int .u16 t1] 50)) (w.heap.size + 1) #[.int .u16 t0, .int .u16 t1] 50 := Blk.new _ _ _ (by simp)
  have HB := balloc (balloc (Below.refl w.heap.size w) (.cells #[.int .i64 y0, .int .i64 y1] 23)) (.cells #[.int .u16 t0, .int .u16 t1] 50)
  go_enter Try.func10, Try.ntmps10
  go_wp2_with fail
  refine (sanity_any _).mono ?_
  rintro e w1 ⟨rfl, hb⟩
  replace HB := bthen' HB hb
  replace A1 := A1.below hb
  replace A2 := A2.below hb
  clear hb
  go_wp2_with fail

  have W1 : 1 ≤ wd % 500 + 1 := by omega
  have W2 : wd % 500 + 1 ≤ 500 := by omega
  generalize wd % 500 + 1 = W at *
  obtain ⟨P1, P2⟩ := tmod_small' y0 (m := 1000) (by omega)
  obtain ⟨Q1, Q2⟩ := tmod_small' y1 (m := 1000) (by omega)
  have eV : (-W).tdiv 2 = -(W / 2) := by rw [Int.neg_tdiv, Int.tdiv_eq_ediv_of_nonneg (by omega)]
  have eV2 : W.tdiv 2 = W / 2 := Int.tdiv_eq_ediv_of_nonneg (by omega)
  have V1 : 0 ≤ W / 2 := by omega
  have V2 : W / 2 ≤ W := by omega
  have hV : ∃ V, V = W / 2 := ⟨_, rfl⟩
  obtain ⟨V, hV⟩ := hV
  have hP : ∃ P, P = y0.tmod 1000 := ⟨_, rfl⟩
  obtain ⟨P, hP⟩ := hP
  have hQ : ∃ Q, Q = y1.tmod 1000 := ⟨_, rfl⟩
  obtain ⟨Q, hQ⟩ := hQ
  rw [← hV] at eV eV2 V1 V2
  rw [← hP] at P1 P2
  rw [← hQ] at Q1 Q2
  have HW1 := Lib.hid (show IntKind.i64.wrap (-W) = -W from IntWalk.i64_in _ (by omega))
  have HW2 := Lib.hid (show IntKind.i64.wrap ((-W).tdiv 2) = -V by rw [eV]; exact IntWalk.i64_in _ (by omega))
  have HW3 := Lib.hid (show IntKind.i64.wrap (-(W.tdiv 2)) = -V by rw [eV2]; exact IntWalk.i64_in _ (by omega))
  have HW4 := Lib.hid (show wrap64 (-(W.tdiv 2)) = -V by rw [eV2]; unfold wrap64; omega)
  have HW5 := Lib.hid hP.symm
  have HW9 := Lib.hid (show IntKind.i64.wrap (W.tdiv 2) = V by rw [eV2]; exact IntWalk.i64_in _ (by omega))
  have HW10 := Lib.hid (show IntKind.i64.wrap (W - V) = W - V from IntWalk.i64_in _ (by omega))
  have HW13 := Lib.hid hQ.symm
  have HV := Lib.hid hV
  clear eV eV2 hV hP hQ
  refine start_ (n := 19) (S := fun w' => True) (ds := []) #[false, false, false, false, false, false, false, false, false, false, false, false, false, false, false, false, false, false, false] (by kernel_rfl) rfl rfl trivial (fun hHeld => ?_)
  refine with_tabW fixEnds.tab3 fixEnds.bits3 (fun HT_ HW_ => ?_)
  replace HB := Aside0.mk (bdrew HB)
  replace A1 := Aside0.mk A1.drew
  replace A2 := Aside0.mk A2.drew
  generalize w1.drew = w1' at *
  have L0 : Aside0 (0 < w1'.heap.size) := ⟨Nat.lt_of_le_of_lt (Nat.zero_le _) A2.out.lt⟩
  have L1 := L0
  refine inv_at [0, 1, 2, 3, 4, 5, 6, 7, 8, 9, 10, 11, 12, 13, 14, 15, 16, 17, 18] (fun a0_ b a w' => ∃ (g0 : Nat) (g1 : Nat) (m15_ : Value) (m16_ : Value), a = putSel a0_ b [(0, 26, .int .i64 W), (1, 27, .int .i64 (-W)), (2, 28, .int .i64 (-V)), (3, 29, .pointer (some ⟨w.heap.size, 0, none⟩)), (4, 30, .int .i64 y0), (5, 31, .int .i64 P), (6, 32, .agg #[.int .i64 (-V), .int .i64 P]), (7, 33, .int .i64 W), (8, 34, .int .i64 W), (9, 35, .int .i64 V), (10, 36, .int .i64 (W - V)), (11, 37, .pointer (some ⟨w.heap.size, 1, none⟩)), (12, 38, .int .i64 y1), (13, 39, .int .i64 Q), (14, 40, .agg #[.int .i64 (W - V), .int .i64 Q]), (15, 9, m15_), (16, 10, m16_)] ∧ (Below w.heap.size w w') ∧ (Blk w' w.heap.size #[.int .i64 y0, .int .i64 y1] 23) ∧ (Blk w' (w.heap.size + 1) #[.int .u16 t0, .int .u16 t1] 50) ∧ (b 15 = true → b 17 = false → Blk w' g0 #[.int .i64 0, .int .i64 0] 23) ∧ (b 15 = true → b 17 = true → Blk w' g0 #[.int .i64 (-V), .int .i64 P] 23) ∧ (b 15 = true → w.heap.size + 1 < g0) ∧ (g0 < w'.heap.size) ∧ (b 16 = true → b 18 = false → Blk w' g1 #[.int .i64 0, .int .i64 0] 23) ∧ (b 16 = true → b 18 = true → Blk w' g1 #[.int .i64 (W - V), .int .i64 Q] 23) ∧ (b 16 = true → w.heap.size + 1 < g1) ∧ (g1 < w'.heap.size) ∧ (b 15 = true → b 16 = true → g0 ≠ g1) ∧ (b 15 = true → (m15_ : Value) = .pointer (some ⟨g0, 0, none⟩)) ∧ (b 16 = true → (m16_ : Value) = .pointer (some ⟨g1, 0, none⟩))) HT_.out HW_.out (by kernel_rfl) (by kernel_rfl) ?_ ?_ ?_
  · exact ⟨0, 0, .bool false, .bool false, by simp only [putSel, Bool.false_eq_true, if_false], HB.out, A1.out, A2.out, fun h_ => absurd h_ (by decide), fun h_ => absurd h_ (by decide), fun h_ => absurd h_ (by decide), L0.out, fun h_ => absurd h_ (by decide), fun h_ => absurd h_ (by decide), fun h_ => absurd h_ (by decide), L1.out, fun h_ => absurd h_ (by decide), fun h_ => absurd h_ (by decide), fun h_ => absurd h_ (by decide)⟩
  · skip
    clear A1 A2 HB L0 L1
    refine steps_cons ?_ ?_
    · rintro b a w' ⟨g0, g1, m15_, m16_, ha, Q_HB, Q_A1, Q_A2, Q_Z0, Q_F0, Q_G0, Q_L0, Q_Z1, Q_F1, Q_G1, Q_L1, Q_NE01, Q_X15_, Q_X16_⟩ hb_ hon hoff
      refine ⟨_, rfl, fun K hK => ?_⟩
      have e8 : a.tmps[8]? = some (.int .i64 W) := by rw [ha]; exact (putSel_off rfl).trans rfl
      replace ha := Aside0.mk ha
      have HB := Aside0.mk Q_HB
      have A1 := Aside0.mk Q_A1
      have A2 := Aside0.mk Q_A2
      have L0 := Aside0.mk Q_L0
      have L1 := Aside0.mk Q_L1
      refine value_ (w1 := w') (v := .int .i64 W) (by rfl) rfl ?_ ?_
      · go_simp
        (try simp only [i64_w])
        try rfl
      refine hK.out _ _ ⟨g0, g1, m15_, m16_, (by rw [ha.out]; exact putSel_upk 0 hb_ rfl rfl rfl), Q_HB, Q_A1, Q_A2, Q_Z0, fun _ h1_ => absurd ((hoff 17 (by kernel_rfl)).symm.trans h1_) (by decide), Q_G0, Q_L0, Q_Z1, fun _ h1_ => absurd ((hoff 18 (by kernel_rfl)).symm.trans h1_) (by decide), Q_G1, Q_L1, Q_NE01, Q_X15_, Q_X16_⟩
    refine steps_cons ?_ ?_
    · rintro b a w' ⟨g0, g1, m15_, m16_, ha, Q_HB, Q_A1, Q_A2, Q_Z0, Q_F0, Q_G0, Q_L0, Q_Z1, Q_F1, Q_G1, Q_L1, Q_NE01, Q_X15_, Q_X16_⟩ hb_ hon hoff
      refine ⟨_, rfl, fun K hK => ?_⟩
      have e26 : a.tmps[26]? = some (.int .i64 W) := by rw [ha]; exact putSel_on (e := (0, 26, .int .i64 W)) 0 rfl rfl (hon 0 (by kernel_rfl)) rfl
      replace ha := Aside0.mk ha
      have HB := Aside0.mk Q_HB
      have A1 := Aside0.mk Q_A1
      have A2 := Aside0.mk Q_A2
      have L0 := Aside0.mk Q_L0
      have L1 := Aside0.mk Q_L1
      have q1 := HW1.out
      refine value_ (w1 := w') (v := .int .i64 (-W)) (by rfl) rfl ?_ ?_
      · go_simp
        (try simp only [i64_w])
        try rfl
      refine hK.out _ _ ⟨g0, g1, m15_, m16_, (by rw [ha.out]; exact putSel_upk 1 hb_ rfl rfl rfl), Q_HB, Q_A1, Q_A2, Q_Z0, fun _ h1_ => absurd ((hoff 17 (by kernel_rfl)).symm.trans h1_) (by decide), Q_G0, Q_L0, Q_Z1, fun _ h1_ => absurd ((hoff 18 (by kernel_rfl)).symm.trans h1_) (by decide), Q_G1, Q_L1, Q_NE01, Q_X15_, Q_X16_⟩
    refine steps_cons ?_ ?_
    · rintro b a w' ⟨g0, g1, m15_, m16_, ha, Q_HB, Q_A1, Q_A2, Q_Z0, Q_F0, Q_G0, Q_L0, Q_Z1, Q_F1, Q_G1, Q_L1, Q_NE01, Q_X15_, Q_X16_⟩ hb_ hon hoff
      refine ⟨_, rfl, fun K hK => ?_⟩
      have e27 : a.tmps[27]? = some (.int .i64 (-W)) := by rw [ha]; exact putSel_on (e := (1, 27, .int .i64 (-W))) 1 rfl rfl (hon 1 (by kernel_rfl)) rfl
      replace ha := Aside0.mk ha
      have HB := Aside0.mk Q_HB
      have A1 := Aside0.mk Q_A1
      have A2 := Aside0.mk Q_A2
      have L0 := Aside0.mk Q_L0
      have L1 := Aside0.mk Q_L1
      have q1 := HW2.out
      have q2 := HW3.out
      have q3 := HW4.out
      refine value_ (w1 := w') (v := .int .i64 (-V)) (by rfl) rfl ?_ ?_
      · go_simp
        (try simp only [i64_w])
        try rfl
      refine hK.out _ _ ⟨g0, g1, m15_, m16_, (by rw [ha.out]; exact putSel_upk 2 hb_ rfl rfl rfl), Q_HB, Q_A1, Q_A2, Q_Z0, fun _ h1_ => absurd ((hoff 17 (by kernel_rfl)).symm.trans h1_) (by decide), Q_G0, Q_L0, Q_Z1, fun _ h1_ => absurd ((hoff 18 (by kernel_rfl)).symm.trans h1_) (by decide), Q_G1, Q_L1, Q_NE01, Q_X15_, Q_X16_⟩
    refine steps_cons ?_ ?_
    · rintro b a w' ⟨g0, g1, m15_, m16_, ha, Q_HB, Q_A1, Q_A2, Q_Z0, Q_F0, Q_G0, Q_L0, Q_Z1, Q_F1, Q_G1, Q_L1, Q_NE01, Q_X15_, Q_X16_⟩ hb_ hon hoff
      refine ⟨_, rfl, fun K hK => ?_⟩
      have e3 : a.tmps[3]? = some (.pointer (some ⟨w.heap.size, 0, none⟩)) := by rw [ha]; exact (putSel_off rfl).trans rfl
      replace ha := Aside0.mk ha
      have HB := Aside0.mk Q_HB
      have A1 := Aside0.mk Q_A1
      have A2 := Aside0.mk Q_A2
      have L0 := Aside0.mk Q_L0
      have L1 := Aside0.mk Q_L1
      refine value_ (w1 := w') (v := .pointer (some ⟨w.heap.size, 0, none⟩)) (by rfl) rfl ?_ ?_
      · go_simp
        (try simp only [i64_w])
        try rfl
      refine hK.out _ _ ⟨g0, g1, m15_, m16_, (by rw [ha.out]; exact putSel_upk 3 hb_ rfl rfl rfl), Q_HB, Q_A1, Q_A2, Q_Z0, fun _ h1_ => absurd ((hoff 17 (by kernel_rfl)).symm.trans h1_) (by decide), Q_G0, Q_L0, Q_Z1, fun _ h1_ => absurd ((hoff 18 (by kernel_rfl)).symm.trans h1_) (by decide), Q_G1, Q_L1, Q_NE01, Q_X15_, Q_X16_⟩
    refine steps_cons ?_ ?_
    · rintro b a w' ⟨g0, g1, m15_, m16_, ha, Q_HB, Q_A1, Q_A2, Q_Z0, Q_F0, Q_G0, Q_L0, Q_Z1, Q_F1, Q_G1, Q_L1, Q_NE01, Q_X15_, Q_X16_⟩ hb_ hon hoff
      refine ⟨_, rfl, fun K hK => ?_⟩
      have e29 : a.tmps[29]? = some (.pointer (some ⟨w.heap.size, 0, none⟩)) := by rw [ha]; exact putSel_on (e := (3, 29, .pointer (some ⟨w.heap.size, 0, none⟩))) 3 rfl rfl (hon 3 (by kernel_rfl)) rfl
      replace ha := Aside0.mk ha
      have HB := Aside0.mk Q_HB
      have A1 := Aside0.mk Q_A1
      have A2 := Aside0.mk Q_A2
      have L0 := Aside0.mk Q_L0
      have L1 := Aside0.mk Q_L1
      have c0 : w'.cell? ⟨w.heap.size, 0, none⟩ = some (.int .i64 y0) := A1.out.cell 0
      refine value_ (w1 := w') (v := .int .i64 y0) (by rfl) rfl ?_ ?_
      · go_simp
        (try simp only [i64_w])
        try rfl
      refine hK.out _ _ ⟨g0, g1, m15_, m16_, (by rw [ha.out]; exact putSel_upk 4 hb_ rfl rfl rfl), Q_HB, Q_A1, Q_A2, Q_Z0, fun _ h1_ => absurd ((hoff 17 (by kernel_rfl)).symm.trans h1_) (by decide), Q_G0, Q_L0, Q_Z1, fun _ h1_ => absurd ((hoff 18 (by kernel_rfl)).symm.trans h1_) (by decide), Q_G1, Q_L1, Q_NE01, Q_X15_, Q_X16_⟩
    refine steps_cons ?_ ?_
    · rintro b a w' ⟨g0, g1, m15_, m16_, ha, Q_HB, Q_A1, Q_A2, Q_Z0, Q_F0, Q_G0, Q_L0, Q_Z1, Q_F1, Q_G1, Q_L1, Q_NE01, Q_X15_, Q_X16_⟩ hb_ hon hoff
      refine ⟨_, rfl, fun K hK => ?_⟩
      have e30 : a.tmps[30]? = some (.int .i64 y0) := by rw [ha]; exact putSel_on (e := (4, 30, .int .i64 y0)) 4 rfl rfl (hon 4 (by kernel_rfl)) rfl
      replace ha := Aside0.mk ha
      have HB := Aside0.mk Q_HB
      have A1 := Aside0.mk Q_A1
      have A2 := Aside0.mk Q_A2
      have L0 := Aside0.mk Q_L0
      have L1 := Aside0.mk Q_L1
      have q1 := HW5.out
      refine value_ (w1 := w') (v := .int .i64 P) (by rfl) rfl ?_ ?_
      · go_simp
        (try simp only [i64_w])
        try rfl
      refine hK.out _ _ ⟨g0, g1, m15_, m16_, (by rw [ha.out]; exact putSel_upk 5 hb_ rfl rfl rfl), Q_HB, Q_A1, Q_A2, Q_Z0, fun _ h1_ => absurd ((hoff 17 (by kernel_rfl)).symm.trans h1_) (by decide), Q_G0, Q_L0, Q_Z1, fun _ h1_ => absurd ((hoff 18 (by kernel_rfl)).symm.trans h1_) (by decide), Q_G1, Q_L1, Q_NE01, Q_X15_, Q_X16_⟩
    refine steps_cons ?_ ?_
    · rintro b a w' ⟨g0, g1, m15_, m16_, ha, Q_HB, Q_A1, Q_A2, Q_Z0, Q_F0, Q_G0, Q_L0, Q_Z1, Q_F1, Q_G1, Q_L1, Q_NE01, Q_X15_, Q_X16_⟩ hb_ hon hoff
      refine ⟨_, rfl, fun K hK => ?_⟩
      have e28 : a.tmps[28]? = some (.int .i64 (-V)) := by rw [ha]; exact putSel_on (e := (2, 28, .int .i64 (-V))) 2 rfl rfl (hon 2 (by kernel_rfl)) rfl
      have e31 : a.tmps[31]? = some (.int .i64 P) := by rw [ha]; exact putSel_on (e := (5, 31, .int .i64 P)) 5 rfl rfl (hon 5 (by kernel_rfl)) rfl
      replace ha := Aside0.mk ha
      have HB := Aside0.mk Q_HB
      have A1 := Aside0.mk Q_A1
      have A2 := Aside0.mk Q_A2
      have L0 := Aside0.mk Q_L0
      have L1 := Aside0.mk Q_L1
      refine value_ (w1 := w') (v := .agg #[.int .i64 (-V), .int .i64 P]) (by rfl) rfl ?_ ?_
      · go_simp
        (try simp only [i64_w])
        try rfl
      refine hK.out _ _ ⟨g0, g1, m15_, m16_, (by rw [ha.out]; exact putSel_upk 6 hb_ rfl rfl rfl), Q_HB, Q_A1, Q_A2, Q_Z0, fun _ h1_ => absurd ((hoff 17 (by kernel_rfl)).symm.trans h1_) (by decide), Q_G0, Q_L0, Q_Z1, fun _ h1_ => absurd ((hoff 18 (by kernel_rfl)).symm.trans h1_) (by decide), Q_G1, Q_L1, Q_NE01, Q_X15_, Q_X16_⟩
    refine steps_cons ?_ ?_
    · rintro b a w' ⟨g0, g1, m15_, m16_, ha, Q_HB, Q_A1, Q_A2, Q_Z0, Q_F0, Q_G0, Q_L0, Q_Z1, Q_F1, Q_G1, Q_L1, Q_NE01, Q_X15_, Q_X16_⟩ hb_ hon hoff
      refine ⟨_, rfl, fun K hK => ?_⟩
      have e8 : a.tmps[8]? = some (.int .i64 W) := by rw [ha]; exact (putSel_off rfl).trans rfl
      replace ha := Aside0.mk ha
      have HB := Aside0.mk Q_HB
      have A1 := Aside0.mk Q_A1
      have A2 := Aside0.mk Q_A2
      have L0 := Aside0.mk Q_L0
      have L1 := Aside0.mk Q_L1
      refine value_ (w1 := w') (v := .int .i64 W) (by rfl) rfl ?_ ?_
      · go_simp
        (try simp only [i64_w])
        try rfl
      refine hK.out _ _ ⟨g0, g1, m15_, m16_, (by rw [ha.out]; exact putSel_upk 7 hb_ rfl rfl rfl), Q_HB, Q_A1, Q_A2, Q_Z0, Q_F0, Q_G0, Q_L0, Q_Z1, fun _ h1_ => absurd ((hoff 18 (by kernel_rfl)).symm.trans h1_) (by decide), Q_G1, Q_L1, Q_NE01, Q_X15_, Q_X16_⟩
    refine steps_cons ?_ ?_
    · rintro b a w' ⟨g0, g1, m15_, m16_, ha, Q_HB, Q_A1, Q_A2, Q_Z0, Q_F0, Q_G0, Q_L0, Q_Z1, Q_F1, Q_G1, Q_L1, Q_NE01, Q_X15_, Q_X16_⟩ hb_ hon hoff
      refine ⟨_, rfl, fun K hK => ?_⟩
      have e8 : a.tmps[8]? = some (.int .i64 W) := by rw [ha]; exact (putSel_off rfl).trans rfl
      replace ha := Aside0.mk ha
      have HB := Aside0.mk Q_HB
      have A1 := Aside0.mk Q_A1
      have A2 := Aside0.mk Q_A2
      have L0 := Aside0.mk Q_L0
      have L1 := Aside0.mk Q_L1
      refine value_ (w1 := w') (v := .int .i64 W) (by rfl) rfl ?_ ?_
      · go_simp
        (try simp only [i64_w])
        try rfl
      refine hK.out _ _ ⟨g0, g1, m15_, m16_, (by rw [ha.out]; exact putSel_upk 8 hb_ rfl rfl rfl), Q_HB, Q_A1, Q_A2, Q_Z0, Q_F0, Q_G0, Q_L0, Q_Z1, fun _ h1_ => absurd ((hoff 18 (by kernel_rfl)).symm.trans h1_) (by decide), Q_G1, Q_L1, Q_NE01, Q_X15_, Q_X16_⟩
    refine steps_cons ?_ ?_
    · rintro b a w' ⟨g0, g1, m15_, m16_, ha, Q_HB, Q_A1, Q_A2, Q_Z0, Q_F0, Q_G0, Q_L0, Q_Z1, Q_F1, Q_G1, Q_L1, Q_NE01, Q_X15_, Q_X16_⟩ hb_ hon hoff
      refine ⟨_, rfl, fun K hK => ?_⟩
      have e34 : a.tmps[34]? = some (.int .i64 W) := by rw [ha]; exact putSel_on (e := (8, 34, .int .i64 W)) 8 rfl rfl (hon 8 (by kernel_rfl)) rfl
      replace ha := Aside0.mk ha
      have HB := Aside0.mk Q_HB
      have A1 := Aside0.mk Q_A1
      have A2 := Aside0.mk Q_A2
      have L0 := Aside0.mk Q_L0
      have L1 := Aside0.mk Q_L1
      have q1 := HW9.out
      refine value_ (w1 := w') (v := .int .i64 V) (by rfl) rfl ?_ ?_
      · go_simp
        (try simp only [i64_w])
        try rfl
      refine hK.out _ _ ⟨g0, g1, m15_, m16_, (by rw [ha.out]; exact putSel_upk 9 hb_ rfl rfl rfl), Q_HB, Q_A1, Q_A2, Q_Z0, Q_F0, Q_G0, Q_L0, Q_Z1, fun _ h1_ => absurd ((hoff 18 (by kernel_rfl)).symm.trans h1_) (by decide), Q_G1, Q_L1, Q_NE01, Q_X15_, Q_X16_⟩
    refine steps_cons ?_ ?_
    · rintro b a w' ⟨g0, g1, m15_, m16_, ha, Q_HB, Q_A1, Q_A2, Q_Z0, Q_F0, Q_G0, Q_L0, Q_Z1, Q_F1, Q_G1, Q_L1, Q_NE01, Q_X15_, Q_X16_⟩ hb_ hon hoff
      refine ⟨_, rfl, fun K hK => ?_⟩
      have e33 : a.tmps[33]? = some (.int .i64 W) := by rw [ha]; exact putSel_on (e := (7, 33, .int .i64 W)) 7 rfl rfl (hon 7 (by kernel_rfl)) rfl
      have e35 : a.tmps[35]? = some (.int .i64 V) := by rw [ha]; exact putSel_on (e := (9, 35, .int .i64 V)) 9 rfl rfl (hon 9 (by kernel_rfl)) rfl
      replace ha := Aside0.mk ha
      have HB := Aside0.mk Q_HB
      have A1 := Aside0.mk Q_A1
      have A2 := Aside0.mk Q_A2
      have L0 := Aside0.mk Q_L0
      have L1 := Aside0.mk Q_L1
      have q1 := HW10.out
      refine value_ (w1 := w') (v := .int .i64 (W - V)) (by rfl) rfl ?_ ?_
      · go_simp
        (try simp only [i64_w])
        try rfl
      refine hK.out _ _ ⟨g0, g1, m15_, m16_, (by rw [ha.out]; exact putSel_upk 10 hb_ rfl rfl rfl), Q_HB, Q_A1, Q_A2, Q_Z0, Q_F0, Q_G0, Q_L0, Q_Z1, fun _ h1_ => absurd ((hoff 18 (by kernel_rfl)).symm.trans h1_) (by decide), Q_G1, Q_L1, Q_NE01, Q_X15_, Q_X16_⟩
    refine steps_cons ?_ ?_
    · rintro b a w' ⟨g0, g1, m15_, m16_, ha, Q_HB, Q_A1, Q_A2, Q_Z0, Q_F0, Q_G0, Q_L0, Q_Z1, Q_F1, Q_G1, Q_L1, Q_NE01, Q_X15_, Q_X16_⟩ hb_ hon hoff
      refine ⟨_, rfl, fun K hK => ?_⟩
      have e3 : a.tmps[3]? = some (.pointer (some ⟨w.heap.size, 0, none⟩)) := by rw [ha]; exact (putSel_off rfl).trans rfl
      replace ha := Aside0.mk ha
      have HB := Aside0.mk Q_HB
      have A1 := Aside0.mk Q_A1
      have A2 := Aside0.mk Q_A2
      have L0 := Aside0.mk Q_L0
      have L1 := Aside0.mk Q_L1
      refine value_ (w1 := w') (v := .pointer (some ⟨w.heap.size, 1, none⟩)) (by rfl) rfl ?_ ?_
      · go_simp
        (try simp only [i64_w])
        try rfl
      refine hK.out _ _ ⟨g0, g1, m15_, m16_, (by rw [ha.out]; exact putSel_upk 11 hb_ rfl rfl rfl), Q_HB, Q_A1, Q_A2, Q_Z0, Q_F0, Q_G0, Q_L0, Q_Z1, fun _ h1_ => absurd ((hoff 18 (by kernel_rfl)).symm.trans h1_) (by decide), Q_G1, Q_L1, Q_NE01, Q_X15_, Q_X16_⟩
    refine steps_cons ?_ ?_
    · rintro b a w' ⟨g0, g1, m15_, m16_, ha, Q_HB, Q_A1, Q_A2, Q_Z0, Q_F0, Q_G0, Q_L0, Q_Z1, Q_F1, Q_G1, Q_L1, Q_NE01, Q_X15_, Q_X16_⟩ hb_ hon hoff
      refine ⟨_, rfl, fun K hK => ?_⟩
      have e37 : a.tmps[37]? = some (.pointer (some ⟨w.heap.size, 1, none⟩)) := by rw [ha]; exact putSel_on (e := (11, 37, .pointer (some ⟨w.heap.size, 1, none⟩))) 11 rfl rfl (hon 11 (by kernel_rfl)) rfl
      replace ha := Aside0.mk ha
      have HB := Aside0.mk Q_HB
      have A1 := Aside0.mk Q_A1
      have A2 := Aside0.mk Q_A2
      have L0 := Aside0.mk Q_L0
      have L1 := Aside0.mk Q_L1
      have c0 : w'.cell? ⟨w.heap.size, 1, none⟩ = some (.int .i64 y1) := A1.out.cell 1
      refine value_ (w1 := w') (v := .int .i64 y1) (by rfl) rfl ?_ ?_
      · go_simp
        (try simp only [i64_w])
        try rfl
      refine hK.out _ _ ⟨g0, g1, m15_, m16_, (by rw [ha.out]; exact putSel_upk 12 hb_ rfl rfl rfl), Q_HB, Q_A1, Q_A2, Q_Z0, Q_F0, Q_G0, Q_L0, Q_Z1, fun _ h1_ => absurd ((hoff 18 (by kernel_rfl)).symm.trans h1_) (by decide), Q_G1, Q_L1, Q_NE01, Q_X15_, Q_X16_⟩
    refine steps_cons ?_ ?_
    · rintro b a w' ⟨g0, g1, m15_, m16_, ha, Q_HB, Q_A1, Q_A2, Q_Z0, Q_F0, Q_G0, Q_L0, Q_Z1, Q_F1, Q_G1, Q_L1, Q_NE01, Q_X15_, Q_X16_⟩ hb_ hon hoff
      refine ⟨_, rfl, fun K hK => ?_⟩
      have e38 : a.tmps[38]? = some (.int .i64 y1) := by rw [ha]; exact putSel_on (e := (12, 38, .int .i64 y1)) 12 rfl rfl (hon 12 (by kernel_rfl)) rfl
      replace ha := Aside0.mk ha
      have HB := Aside0.mk Q_HB
      have A1 := Aside0.mk Q_A1
      have A2 := Aside0.mk Q_A2
      have L0 := Aside0.mk Q_L0
      have L1 := Aside0.mk Q_L1
      have q1 := HW13.out
      refine value_ (w1 := w') (v := .int .i64 Q) (by rfl) rfl ?_ ?_
      · go_simp
        (try simp only [i64_w])
        try rfl
      refine hK.out _ _ ⟨g0, g1, m15_, m16_, (by rw [ha.out]; exact putSel_upk 13 hb_ rfl rfl rfl), Q_HB, Q_A1, Q_A2, Q_Z0, Q_F0, Q_G0, Q_L0, Q_Z1, fun _ h1_ => absurd ((hoff 18 (by kernel_rfl)).symm.trans h1_) (by decide), Q_G1, Q_L1, Q_NE01, Q_X15_, Q_X16_⟩
    refine steps_cons ?_ ?_
    · rintro b a w' ⟨g0, g1, m15_, m16_, ha, Q_HB, Q_A1, Q_A2, Q_Z0, Q_F0, Q_G0, Q_L0, Q_Z1, Q_F1, Q_G1, Q_L1, Q_NE01, Q_X15_, Q_X16_⟩ hb_ hon hoff
      refine ⟨_, rfl, fun K hK => ?_⟩
      have e36 : a.tmps[36]? = some (.int .i64 (W - V)) := by rw [ha]; exact putSel_on (e := (10, 36, .int .i64 (W - V))) 10 rfl rfl (hon 10 (by kernel_rfl)) rfl
      have e39 : a.tmps[39]? = some (.int .i64 Q) := by rw [ha]; exact putSel_on (e := (13, 39, .int .i64 Q)) 13 rfl rfl (hon 13 (by kernel_rfl)) rfl
      replace ha := Aside0.mk ha
      have HB := Aside0.mk Q_HB
      have A1 := Aside0.mk Q_A1
      have A2 := Aside0.mk Q_A2
      have L0 := Aside0.mk Q_L0
      have L1 := Aside0.mk Q_L1
      refine value_ (w1 := w') (v := .agg #[.int .i64 (W - V), .int .i64 Q]) (by rfl) rfl ?_ ?_
      · go_simp
        (try simp only [i64_w])
        try rfl
      refine hK.out _ _ ⟨g0, g1, m15_, m16_, (by rw [ha.out]; exact putSel_upk 14 hb_ rfl rfl rfl), Q_HB, Q_A1, Q_A2, Q_Z0, Q_F0, Q_G0, Q_L0, Q_Z1, fun _ h1_ => absurd ((hoff 18 (by kernel_rfl)).symm.trans h1_) (by decide), Q_G1, Q_L1, Q_NE01, Q_X15_, Q_X16_⟩
    refine steps_cons ?_ ?_
    · rintro b a w' ⟨g0, g1, m15_, m16_, ha, Q_HB, Q_A1, Q_A2, Q_Z0, Q_F0, Q_G0, Q_L0, Q_Z1, Q_F1, Q_G1, Q_L1, Q_NE01, Q_X15_, Q_X16_⟩ hb_ hon hoff
      refine ⟨_, rfl, fun K hK => ?_⟩
      replace ha := Aside0.mk ha
      have HB := Aside0.mk Q_HB
      have A1 := Aside0.mk Q_A1
      have A2 := Aside0.mk Q_A2
      have L0 := Aside0.mk Q_L0
      have L1 := Aside0.mk Q_L1
      refine value_ (w1 := w'.alloc (.cells #[.int .i64 0, .int .i64 0] 23)) (v := .pointer (some ⟨w'.heap.size, 0, none⟩)) (by rfl) rfl ?_ ?_
      · go_simp
      refine hK.out _ _ ⟨w'.heap.size, g1, (.pointer (some ⟨w'.heap.size, 0, none⟩)), m16_, (by rw [ha.out]; exact putSel_upk 15 hb_ rfl rfl rfl), balloc HB.out (.cells #[.int .i64 0, .int .i64 0] 23), A1.out.alloc (.cells #[.int .i64 0, .int .i64 0] 23), A2.out.alloc (.cells #[.int .i64 0, .int .i64 0] 23), fun _ _ => Blk.new w' #[.int .i64 0, .int .i64 0] 23 rfl, fun _ h1_ => absurd ((hoff 17 (by kernel_rfl)).symm.trans h1_) (by decide), fun _ => A2.out.lt, (by simp), fun h0_ h1_ => (Q_Z1 h0_ h1_).alloc (.cells #[.int .i64 0, .int .i64 0] 23), fun _ h1_ => absurd ((hoff 18 (by kernel_rfl)).symm.trans h1_) (by decide), Q_G1, (by have := L1.out; simp; omega), fun _ _ => Nat.ne_of_gt L1.out, fun _ => rfl, Q_X16_⟩
    refine steps_cons ?_ ?_
    · rintro b a w' ⟨g0, g1, m15_, m16_, ha, Q_HB, Q_A1, Q_A2, Q_Z0, Q_F0, Q_G0, Q_L0, Q_Z1, Q_F1, Q_G1, Q_L1, Q_NE01, Q_X15_, Q_X16_⟩ hb_ hon hoff
      refine ⟨_, rfl, fun K hK => ?_⟩
      replace ha := Aside0.mk ha
      have HB := Aside0.mk Q_HB
      have A1 := Aside0.mk Q_A1
      have A2 := Aside0.mk Q_A2
      have L0 := Aside0.mk Q_L0
      have L1 := Aside0.mk Q_L1
      refine value_ (w1 := w'.alloc (.cells #[.int .i64 0, .int .i64 0] 23)) (v := .pointer (some ⟨w'.heap.size, 0, none⟩)) (by rfl) rfl ?_ ?_
      · go_simp
      refine hK.out _ _ ⟨g0, w'.heap.size, m15_, (.pointer (some ⟨w'.heap.size, 0, none⟩)), (by rw [ha.out]; exact putSel_upk 16 hb_ rfl rfl rfl), balloc HB.out (.cells #[.int .i64 0, .int .i64 0] 23), A1.out.alloc (.cells #[.int .i64 0, .int .i64 0] 23), A2.out.alloc (.cells #[.int .i64 0, .int .i64 0] 23), fun h0_ h1_ => (Q_Z0 h0_ h1_).alloc (.cells #[.int .i64 0, .int .i64 0] 23), fun _ h1_ => absurd ((hoff 17 (by kernel_rfl)).symm.trans h1_) (by decide), Q_G0, (by have := L0.out; simp; omega), fun _ _ => Blk.new w' #[.int .i64 0, .int .i64 0] 23 rfl, fun _ h1_ => absurd ((hoff 18 (by kernel_rfl)).symm.trans h1_) (by decide), fun _ => A2.out.lt, (by simp), fun _ _ => Nat.ne_of_lt L0.out, Q_X15_, fun _ => rfl⟩
    refine steps_cons ?_ ?_
    · rintro b a w' ⟨g0, g1, m15_, m16_, ha, Q_HB, Q_A1, Q_A2, Q_Z0, Q_F0, Q_G0, Q_L0, Q_Z1, Q_F1, Q_G1, Q_L1, Q_NE01, Q_X15_, Q_X16_⟩ hb_ hon hoff
      refine ⟨_, rfl, fun K hK => ?_⟩
      have e9 : a.tmps[9]? = some (m15_) := by rw [ha]; exact putSel_on (e := (15, 9, m15_)) 15 rfl rfl (hon 15 (by kernel_rfl)) rfl
      rw [Q_X15_ (hon 15 (by kernel_rfl))] at e9
      have e32 : a.tmps[32]? = some (.agg #[.int .i64 (-V), .int .i64 P]) := by rw [ha]; exact putSel_on (e := (6, 32, .agg #[.int .i64 (-V), .int .i64 P])) 6 rfl rfl (hon 6 (by kernel_rfl)) rfl
      replace ha := Aside0.mk ha
      have HB := Aside0.mk Q_HB
      have A1 := Aside0.mk Q_A1
      have A2 := Aside0.mk Q_A2
      have Z0 := Aside0.mk (Q_Z0 (hon 15 (by kernel_rfl)) hb_)
      have G0 := Aside0.mk (Q_G0 (hon 15 (by kernel_rfl)))
      have L0 := Aside0.mk Q_L0
      have Z1 := Aside0.mk (Q_Z1 (hon 16 (by kernel_rfl)) (hoff 18 (by kernel_rfl)))
      have G1 := Aside0.mk (Q_G1 (hon 16 (by kernel_rfl)))
      have L1 := Aside0.mk Q_L1
      have NE01 := Aside0.mk (Q_NE01 (hon 15 (by kernel_rfl)) (hon 16 (by kernel_rfl)))
      have c0 : w'.cell? ⟨g0, 0, none⟩ = some (.int .i64 0) := Z0.out.cell 0
      have c1 : w'.cell? ⟨g0, 1, none⟩ = some (.int .i64 0) := Z0.out.cell 1
      have f0 : w'.frozen? ⟨g0, 0, none⟩ = false := Z0.out.frozen 0
      have f1 : w'.frozen? ⟨g0, 1, none⟩ = false := Z0.out.frozen 1
      refine skip_ (w1 := ((w'.setCell ⟨g0, 0, none⟩ (.int .i64 (-V))).setCell ⟨g0, 1, none⟩ (.int .i64 P))) (by rfl) rfl ?_ ?_
      · go_simp
      refine hK.out _ _ ⟨g0, g1, m15_, m16_, (by rw [ha.out]; exact putSel_none (v := undef) rfl), bset (bset HB.out (by have := G0.out; omega) 0 _) (by have := G0.out; omega) 1 _, (A1.out.far (by have := G0.out; omega) 0 _).far (by have := G0.out; omega) 1 _, (A2.out.far (by have := G0.out; omega) 0 _).far (by have := G0.out; omega) 1 _, fun _ h1_ => absurd ((up_self b 17).symm.trans h1_) (by decide), fun _ _ => (Z0.out.put 0 _ rfl).put 1 _ rfl, Q_G0, (by have := L0.out; simpa using this), fun _ _ => (by have hne := Q_NE01 (hon 15 (by kernel_rfl)) (hon 16 (by kernel_rfl)); exact (Z1.out.far (Ne.symm hne) 0 _).far (Ne.symm hne) 1 _), fun _ h1_ => absurd ((hoff 18 (by kernel_rfl)).symm.trans h1_) (by decide), Q_G1, (by have := L1.out; simpa using this), Q_NE01, Q_X15_, Q_X16_⟩
    refine steps_cons ?_ ?_
    · rintro b a w' ⟨g0, g1, m15_, m16_, ha, Q_HB, Q_A1, Q_A2, Q_Z0, Q_F0, Q_G0, Q_L0, Q_Z1, Q_F1, Q_G1, Q_L1, Q_NE01, Q_X15_, Q_X16_⟩ hb_ hon hoff
      refine ⟨_, rfl, fun K hK => ?_⟩
      have e10 : a.tmps[10]? = some (m16_) := by rw [ha]; exact putSel_on (e := (16, 10, m16_)) 16 rfl rfl (hon 16 (by kernel_rfl)) rfl
      rw [Q_X16_ (hon 16 (by kernel_rfl))] at e10
      have e40 : a.tmps[40]? = some (.agg #[.int .i64 (W - V), .int .i64 Q]) := by rw [ha]; exact putSel_on (e := (14, 40, .agg #[.int .i64 (W - V), .int .i64 Q])) 14 rfl rfl (hon 14 (by kernel_rfl)) rfl
      replace ha := Aside0.mk ha
      have HB := Aside0.mk Q_HB
      have A1 := Aside0.mk Q_A1
      have A2 := Aside0.mk Q_A2
      have F0 := Aside0.mk (Q_F0 (hon 15 (by kernel_rfl)) (hon 17 (by kernel_rfl)))
      have G0 := Aside0.mk (Q_G0 (hon 15 (by kernel_rfl)))
      have L0 := Aside0.mk Q_L0
      have Z1 := Aside0.mk (Q_Z1 (hon 16 (by kernel_rfl)) hb_)
      have G1 := Aside0.mk (Q_G1 (hon 16 (by kernel_rfl)))
      have L1 := Aside0.mk Q_L1
      have NE01 := Aside0.mk (Q_NE01 (hon 15 (by kernel_rfl)) (hon 16 (by kernel_rfl)))
      have c0 : w'.cell? ⟨g1, 0, none⟩ = some (.int .i64 0) := Z1.out.cell 0
      have c1 : w'.cell? ⟨g1, 1, none⟩ = some (.int .i64 0) := Z1.out.cell 1
      have f0 : w'.frozen? ⟨g1, 0, none⟩ = false := Z1.out.frozen 0
      have f1 : w'.frozen? ⟨g1, 1, none⟩ = false := Z1.out.frozen 1
      refine skip_ (w1 := ((w'.setCell ⟨g1, 0, none⟩ (.int .i64 (W - V))).setCell ⟨g1, 1, none⟩ (.int .i64 Q))) (by rfl) rfl ?_ ?_
      · go_simp
      refine hK.out _ _ ⟨g0, g1, m15_, m16_, (by rw [ha.out]; exact putSel_none (v := undef) rfl), bset (bset HB.out (by have := G1.out; omega) 0 _) (by have := G1.out; omega) 1 _, (A1.out.far (by have := G1.out; omega) 0 _).far (by have := G1.out; omega) 1 _, (A2.out.far (by have := G1.out; omega) 0 _).far (by have := G1.out; omega) 1 _, fun _ h1_ => absurd ((hon 17 (by kernel_rfl)).symm.trans h1_) (by decide), fun _ _ => (by have hne := Q_NE01 (hon 15 (by kernel_rfl)) (hon 16 (by kernel_rfl)); exact (F0.out.far hne 0 _).far hne 1 _), Q_G0, (by have := L0.out; simpa using this), fun _ h1_ => absurd ((up_self b 18).symm.trans h1_) (by decide), fun _ _ => (Z1.out.put 0 _ rfl).put 1 _ rfl, Q_G1, (by have := L1.out; simpa using this), Q_NE01, Q_X15_, Q_X16_⟩
    exact steps_nil
  · rintro b a w' hall ⟨g0, g1, m15_, m16_, ha, Q_HB, Q_A1, Q_A2, Q_Z0, Q_F0, Q_G0, Q_L0, Q_Z1, Q_F1, Q_G1, Q_L1, Q_NE01, Q_X15_, Q_X16_⟩
    clear A1 A2 HB L0 L1
    have hb0_ := hall 0 (by kernel_rfl)
    have hb1_ := hall 1 (by kernel_rfl)
    have hb2_ := hall 2 (by kernel_rfl)
    have hb3_ := hall 3 (by kernel_rfl)
    have hb4_ := hall 4 (by kernel_rfl)
    have hb5_ := hall 5 (by kernel_rfl)
    have hb6_ := hall 6 (by kernel_rfl)
    have hb7_ := hall 7 (by kernel_rfl)
    have hb8_ := hall 8 (by kernel_rfl)
    have hb9_ := hall 9 (by kernel_rfl)
    have hb10_ := hall 10 (by kernel_rfl)
    have hb11_ := hall 11 (by kernel_rfl)
    have hb12_ := hall 12 (by kernel_rfl)
    have hb13_ := hall 13 (by kernel_rfl)
    have hb14_ := hall 14 (by kernel_rfl)
    have hb15_ := hall 15 (by kernel_rfl)
    have hb16_ := hall 16 (by kernel_rfl)
    have hb17_ := hall 17 (by kernel_rfl)
    have hb18_ := hall 18 (by kernel_rfl)
    subst ha
    obtain rfl := Q_X15_ hb15_
    obtain rfl := Q_X16_ hb16_
    simp only [putSel, hb0_, hb1_, hb2_, hb3_, hb4_, hb5_, hb6_, hb7_, hb8_, hb9_, hb10_, hb11_, hb12_, hb13_, hb14_, hb15_, hb16_, hb17_, hb18_, if_true, Act.put, List.setIfInBounds_toArray, List.set_cons_zero, List.set_cons_succ]
    have HB := Aside0.mk Q_HB
    clear Q_HB
    have A1 := Aside0.mk Q_A1
    clear Q_A1
    have A2 := Aside0.mk Q_A2
    clear Q_A2
    clear Q_Z0
    have F0 := Aside0.mk (Q_F0 hb15_ hb17_)
    clear Q_F0
    have G0 := Aside0.mk (Q_G0 hb15_)
    clear Q_G0
    have L0 := Aside0.mk Q_L0
    clear Q_L0
    clear Q_Z1
    have F1 := Aside0.mk (Q_F1 hb16_ hb18_)
    clear Q_F1
    have G1 := Aside0.mk (Q_G1 hb16_)
    clear Q_G1
    have L1 := Aside0.mk Q_L1
    clear Q_L1
    have NE01 := Aside0.mk (Q_NE01 hb15_ hb16_)
    clear Q_NE01
    clear hall hb0_ hb1_ hb2_ hb3_ hb4_ hb5_ hb6_ hb7_ hb8_ hb9_ hb10_ hb11_ hb12_ hb13_ hb14_ hb15_ hb16_ hb17_ hb18_
    have HB := HB.out
    have A2 := A2.out
    have K0 := F0.out
    have K1 := F1.out
    clear A1 F0 F1 G0 G1 L0 L1 NE01 HW1 HW2 HW3 HW4 HW5 HW9 HW10 HW13
    have u0 : 0 ≤ t0 % (W + 1) := Int.emod_nonneg _ (by omega)
    have u1 : t0 % (W + 1) < W + 1 := Int.emod_lt_of_pos _ (by omega)
    have u2 : 0 ≤ t1 % (W + 1) := Int.emod_nonneg _ (by omega)
    have u3 : t1 % (W + 1) < W + 1 := Int.emod_lt_of_pos _ (by omega)
    have c0 : w'.cell? ⟨g0, 0, none⟩ = some (.int .i64 (-V)) := K0.cell 0
    have c1 : w'.cell? ⟨w.heap.size + 1, 0, none⟩ = some (.int .u16 t0) := A2.cell 0
    have c2 : w'.cell? ⟨w.heap.size + 1, 1, none⟩ = some (.int .u16 t1) := A2.cell 1
    have v1 : IntKind.i64.wrap (W + 1) = W + 1 := IntWalk.i64_in _ (by omega)
    have v2 : IntKind.i64.wrap (-V + t0 % (W + 1)) = -V + t0 % (W + 1) := IntWalk.i64_in _ (by omega)
    have v3 : IntKind.i64.wrap (-V + t1 % (W + 1)) = -V + t1 % (W + 1) := IntWalk.i64_in _ (by omega)
    have v4 : t0.tmod (W + 1) = t0 % (W + 1) := Int.tmod_eq_emod_of_nonneg s1
    have v5 : t1.tmod (W + 1) = t1 % (W + 1) := Int.tmod_eq_emod_of_nonneg s3
    have v6 : ¬ W + 1 = 0 := by omega
    have v7 : (W + 1 == 0) = false := by simp; omega
    have v8 : IntKind.i64.wrap t0 = t0 := IntWalk.i64_in _ (by omega)
    have v9 : IntKind.i64.wrap t1 = t1 := IntWalk.i64_in _ (by omega)
    go_wp2_with fail
    go_quiet (fail)
    clear c0 c1 c2 v1 v2 v3 v4 v5 v6 v7 v8 v9
    replace HB := bdrewN HB nq
    replace K0 := K0.drewN nq
    replace K1 := K1.drewN nq
    clear A2
    generalize w'.drewN nq = z at *
    have l1 : -V ≤ -V + t0 % (W + 1) := by omega
    have l2 : -V + t0 % (W + 1) ≤ W - V := by omega
    have l3 : -V ≤ -V + t1 % (W + 1) := by omega
    have l4 : -V + t1 % (W + 1) ≤ W - V := by omega
    generalize -V + t0 % (W + 1) = p at *
    generalize -V + t1 % (W + 1) = q at *
    clear u0 u1 u2 u3
    rcases Int.lt_trichotomy p q with hpq | hpq | hpq
    · skip
      obtain ⟨k1, k2, k3, k4, k5, k6, k7, k8⟩ := ends_facts (P := P) (Q := Q) W1 W2 HV.out ⟨by omega, by omega⟩ ⟨by omega, by omega⟩ (show -V ≤ p by omega) (show p ≤ q by omega) (show q ≤ W - V by omega)
      have c_lo : ∀ w, Calls Try.prog 28 #[.int .i64 p, .agg #[.int .i64 (-V), .int .i64 P], .agg #[.int .i64 (W - V), .int .i64 Q]] w fun e w' => e = .returned (.tuple #[.int .i64 (lineQ p (-V) P (W - V) Q), .bool true]) ∧ Below w.heap.size w w' := fun w => by have h := line_any p (-V) P (W - V) Q w; rwa [k1] at h
      have H_lo := Lib.hid c_lo
      clear c_lo
      have c_hi : ∀ w, Calls Try.prog 28 #[.int .i64 q, .agg #[.int .i64 (-V), .int .i64 P], .agg #[.int .i64 (W - V), .int .i64 Q]] w fun e w' => e = .returned (.tuple #[.int .i64 (lineQ q (-V) P (W - V) Q), .bool true]) ∧ Below w.heap.size w w' := fun w => by have h := line_any q (-V) P (W - V) Q w; rwa [k2] at h
      have H_hi := Lib.hid c_hi
      clear c_hi
      have c_c : ∀ w, Calls Try.prog 28 #[.int .i64 (-V), .agg #[.int .i64 (-V), .int .i64 P], .agg #[.int .i64 (W - V), .int .i64 Q]] w fun e w' => e = .returned (.tuple #[.int .i64 P, .bool true]) ∧ Below w.heap.size w w' := fun w => by have h := line_any (-V) (-V) P (W - V) Q w; rwa [k3, k5] at h
      have H_c := Lib.hid c_c
      clear c_c
      have c_d : ∀ w, Calls Try.prog 28 #[.int .i64 (W - V), .agg #[.int .i64 (-V), .int .i64 P], .agg #[.int .i64 (W - V), .int .i64 Q]] w fun e w' => e = .returned (.tuple #[.int .i64 Q, .bool true]) ∧ Below w.heap.size w w' := fun w => by have h := line_any (W - V) (-V) P (W - V) Q w; rwa [k4, k6] at h
      have H_d := Lib.hid c_d
      clear c_d
      clear k1 k2 k3 k4 k5 k6
      generalize lineQ p (-V) P (W - V) Q = a at *
      generalize lineQ q (-V) P (W - V) Q = b at *
      have c0 : z.cell? ⟨g0, 0, none⟩ = some (.int .i64 (-V)) := K0.cell 0
      have c1 : z.cell? ⟨g0, 1, none⟩ = some (.int .i64 P) := K0.cell 1
      have c2 : z.cell? ⟨g1, 0, none⟩ = some (.int .i64 (W - V)) := K1.cell 0
      have c3 : z.cell? ⟨g1, 1, none⟩ = some (.int .i64 Q) := K1.cell 1
      go_wp2_with fail
      clear c0 c1 c2 c3
      refine (H_lo.out _).mono ?_
      rintro e z0 ⟨rfl, hb⟩
      replace HB := bthen' HB hb
      replace K0 := K0.below hb
      replace K1 := K1.below hb
      clear hb
      have c0 : z0.cell? ⟨g0, 0, none⟩ = some (.int .i64 (-V)) := K0.cell 0
      have c1 : z0.cell? ⟨g0, 1, none⟩ = some (.int .i64 P) := K0.cell 1
      have c2 : z0.cell? ⟨g1, 0, none⟩ = some (.int .i64 (W - V)) := K1.cell 0
      have c3 : z0.cell? ⟨g1, 1, none⟩ = some (.int .i64 Q) := K1.cell 1
      go_wp2_with fail
      clear c0 c1 c2 c3
      refine (H_hi.out _).mono ?_
      rintro e z1 ⟨rfl, hb⟩
      replace HB := bthen' HB hb
      replace K0 := K0.below hb
      replace K1 := K1.below hb
      clear hb
      have c0 : z1.cell? ⟨g0, 0, none⟩ = some (.int .i64 (-V)) := K0.cell 0
      have c1 : z1.cell? ⟨g0, 1, none⟩ = some (.int .i64 P) := K0.cell 1
      have c2 : z1.cell? ⟨g1, 0, none⟩ = some (.int .i64 (W - V)) := K1.cell 0
      have c3 : z1.cell? ⟨g1, 1, none⟩ = some (.int .i64 Q) := K1.cell 1
      go_wp2_with fail
      clear c0 c1 c2 c3
      refine (H_c.out _).mono ?_
      rintro e z2 ⟨rfl, hb⟩
      replace HB := bthen' HB hb
      replace K0 := K0.below hb
      replace K1 := K1.below hb
      clear hb
      have c0 : z2.cell? ⟨g0, 0, none⟩ = some (.int .i64 (-V)) := K0.cell 0
      have c1 : z2.cell? ⟨g0, 1, none⟩ = some (.int .i64 P) := K0.cell 1
      have c2 : z2.cell? ⟨g1, 0, none⟩ = some (.int .i64 (W - V)) := K1.cell 0
      have c3 : z2.cell? ⟨g1, 1, none⟩ = some (.int .i64 Q) := K1.cell 1
      go_wp2_with fail
      clear c0 c1 c2 c3
      refine (H_d.out _).mono ?_
      rintro e z3 ⟨rfl, hb⟩
      replace HB := bthen' HB hb
      replace K0 := K0.below hb
      replace K1 := K1.below hb
      clear hb
      have c0 : z3.cell? ⟨g0, 0, none⟩ = some (.int .i64 (-V)) := K0.cell 0
      have c1 : z3.cell? ⟨g0, 1, none⟩ = some (.int .i64 P) := K0.cell 1
      have c2 : z3.cell? ⟨g1, 0, none⟩ = some (.int .i64 (W - V)) := K1.cell 0
      have c3 : z3.cell? ⟨g1, 1, none⟩ = some (.int .i64 Q) := K1.cell 1
      have e1 : (P != P) = false := by simp
      have e2 : (Q != Q) = false := by simp
      clear H_lo H_hi H_c H_d HV
      by_cases hPQ : P ≤ Q
      · obtain ⟨m1, m2, m3⟩ := k7 hPQ
        clear k7 k8
        go_wp2
        go_ret
        exact ⟨rfl, HB⟩
      · obtain ⟨m1, m2, m3⟩ := k8 (by omega)
        clear k7 k8
        go_wp2
        go_ret
        exact ⟨rfl, HB⟩
    · skip
      subst hpq
      obtain ⟨k1, k2, k3, k4, k5, k6, k7, k8⟩ := ends_facts (P := P) (Q := Q) W1 W2 HV.out ⟨by omega, by omega⟩ ⟨by omega, by omega⟩ (show -V ≤ p by omega) (show p ≤ p by omega) (show p ≤ W - V by omega)
      have c_lo : ∀ w, Calls Try.prog 28 #[.int .i64 p, .agg #[.int .i64 (-V), .int .i64 P], .agg #[.int .i64 (W - V), .int .i64 Q]] w fun e w' => e = .returned (.tuple #[.int .i64 (lineQ p (-V) P (W - V) Q), .bool true]) ∧ Below w.heap.size w w' := fun w => by have h := line_any p (-V) P (W - V) Q w; rwa [k1] at h
      have H_lo := Lib.hid c_lo
      clear c_lo
      have c_hi : ∀ w, Calls Try.prog 28 #[.int .i64 p, .agg #[.int .i64 (-V), .int .i64 P], .agg #[.int .i64 (W - V), .int .i64 Q]] w fun e w' => e = .returned (.tuple #[.int .i64 (lineQ p (-V) P (W - V) Q), .bool true]) ∧ Below w.heap.size w w' := fun w => by have h := line_any p (-V) P (W - V) Q w; rwa [k2] at h
      have H_hi := Lib.hid c_hi
      clear c_hi
      have c_c : ∀ w, Calls Try.prog 28 #[.int .i64 (-V), .agg #[.int .i64 (-V), .int .i64 P], .agg #[.int .i64 (W - V), .int .i64 Q]] w fun e w' => e = .returned (.tuple #[.int .i64 P, .bool true]) ∧ Below w.heap.size w w' := fun w => by have h := line_any (-V) (-V) P (W - V) Q w; rwa [k3, k5] at h
      have H_c := Lib.hid c_c
      clear c_c
      have c_d : ∀ w, Calls Try.prog 28 #[.int .i64 (W - V), .agg #[.int .i64 (-V), .int .i64 P], .agg #[.int .i64 (W - V), .int .i64 Q]] w fun e w' => e = .returned (.tuple #[.int .i64 Q, .bool true]) ∧ Below w.heap.size w w' := fun w => by have h := line_any (W - V) (-V) P (W - V) Q w; rwa [k4, k6] at h
      have H_d := Lib.hid c_d
      clear c_d
      clear k1 k2 k3 k4 k5 k6
      generalize lineQ p (-V) P (W - V) Q = a at *
      have c0 : z.cell? ⟨g0, 0, none⟩ = some (.int .i64 (-V)) := K0.cell 0
      have c1 : z.cell? ⟨g0, 1, none⟩ = some (.int .i64 P) := K0.cell 1
      have c2 : z.cell? ⟨g1, 0, none⟩ = some (.int .i64 (W - V)) := K1.cell 0
      have c3 : z.cell? ⟨g1, 1, none⟩ = some (.int .i64 Q) := K1.cell 1
      go_wp2_with fail
      clear c0 c1 c2 c3
      refine (H_lo.out _).mono ?_
      rintro e z0 ⟨rfl, hb⟩
      replace HB := bthen' HB hb
      replace K0 := K0.below hb
      replace K1 := K1.below hb
      clear hb
      have c0 : z0.cell? ⟨g0, 0, none⟩ = some (.int .i64 (-V)) := K0.cell 0
      have c1 : z0.cell? ⟨g0, 1, none⟩ = some (.int .i64 P) := K0.cell 1
      have c2 : z0.cell? ⟨g1, 0, none⟩ = some (.int .i64 (W - V)) := K1.cell 0
      have c3 : z0.cell? ⟨g1, 1, none⟩ = some (.int .i64 Q) := K1.cell 1
      go_wp2_with fail
      clear c0 c1 c2 c3
      refine (H_hi.out _).mono ?_
      rintro e z1 ⟨rfl, hb⟩
      replace HB := bthen' HB hb
      replace K0 := K0.below hb
      replace K1 := K1.below hb
      clear hb
      have c0 : z1.cell? ⟨g0, 0, none⟩ = some (.int .i64 (-V)) := K0.cell 0
      have c1 : z1.cell? ⟨g0, 1, none⟩ = some (.int .i64 P) := K0.cell 1
      have c2 : z1.cell? ⟨g1, 0, none⟩ = some (.int .i64 (W - V)) := K1.cell 0
      have c3 : z1.cell? ⟨g1, 1, none⟩ = some (.int .i64 Q) := K1.cell 1
      go_wp2_with fail
      clear c0 c1 c2 c3
      refine (H_c.out _).mono ?_
      rintro e z2 ⟨rfl, hb⟩
      replace HB := bthen' HB hb
      replace K0 := K0.below hb
      replace K1 := K1.below hb
      clear hb
      have c0 : z2.cell? ⟨g0, 0, none⟩ = some (.int .i64 (-V)) := K0.cell 0
      have c1 : z2.cell? ⟨g0, 1, none⟩ = some (.int .i64 P) := K0.cell 1
      have c2 : z2.cell? ⟨g1, 0, none⟩ = some (.int .i64 (W - V)) := K1.cell 0
      have c3 : z2.cell? ⟨g1, 1, none⟩ = some (.int .i64 Q) := K1.cell 1
      go_wp2_with fail
      clear c0 c1 c2 c3
      refine (H_d.out _).mono ?_
      rintro e z3 ⟨rfl, hb⟩
      replace HB := bthen' HB hb
      replace K0 := K0.below hb
      replace K1 := K1.below hb
      clear hb
      have c0 : z3.cell? ⟨g0, 0, none⟩ = some (.int .i64 (-V)) := K0.cell 0
      have c1 : z3.cell? ⟨g0, 1, none⟩ = some (.int .i64 P) := K0.cell 1
      have c2 : z3.cell? ⟨g1, 0, none⟩ = some (.int .i64 (W - V)) := K1.cell 0
      have c3 : z3.cell? ⟨g1, 1, none⟩ = some (.int .i64 Q) := K1.cell 1
      have e1 : (P != P) = false := by simp
      have e2 : (Q != Q) = false := by simp
      clear H_lo H_hi H_c H_d HV
      by_cases hPQ : P ≤ Q
      · obtain ⟨m1, m2, m3⟩ := k7 hPQ
        clear k7 k8
        go_wp2
        go_ret
        exact ⟨rfl, HB⟩
      · obtain ⟨m1, m2, m3⟩ := k8 (by omega)
        clear k7 k8
        go_wp2
        go_ret
        exact ⟨rfl, HB⟩
    · skip
      obtain ⟨k1, k2, k3, k4, k5, k6, k7, k8⟩ := ends_facts (P := P) (Q := Q) W1 W2 HV.out ⟨by omega, by omega⟩ ⟨by omega, by omega⟩ (show -V ≤ q by omega) (show q ≤ p by omega) (show p ≤ W - V by omega)
      have c_lo : ∀ w, Calls Try.prog 28 #[.int .i64 q, .agg #[.int .i64 (-V), .int .i64 P], .agg #[.int .i64 (W - V), .int .i64 Q]] w fun e w' => e = .returned (.tuple #[.int .i64 (lineQ q (-V) P (W - V) Q), .bool true]) ∧ Below w.heap.size w w' := fun w => by have h := line_any q (-V) P (W - V) Q w; rwa [k1] at h
      have H_lo := Lib.hid c_lo
      clear c_lo
      have c_hi : ∀ w, Calls Try.prog 28 #[.int .i64 p, .agg #[.int .i64 (-V), .int .i64 P], .agg #[.int .i64 (W - V), .int .i64 Q]] w fun e w' => e = .returned (.tuple #[.int .i64 (lineQ p (-V) P (W - V) Q), .bool true]) ∧ Below w.heap.size w w' := fun w => by have h := line_any p (-V) P (W - V) Q w; rwa [k2] at h
      have H_hi := Lib.hid c_hi
      clear c_hi
      have c_c : ∀ w, Calls Try.prog 28 #[.int .i64 (-V), .agg #[.int .i64 (-V), .int .i64 P], .agg #[.int .i64 (W - V), .int .i64 Q]] w fun e w' => e = .returned (.tuple #[.int .i64 P, .bool true]) ∧ Below w.heap.size w w' := fun w => by have h := line_any (-V) (-V) P (W - V) Q w; rwa [k3, k5] at h
      have H_c := Lib.hid c_c
      clear c_c
      have c_d : ∀ w, Calls Try.prog 28 #[.int .i64 (W - V), .agg #[.int .i64 (-V), .int .i64 P], .agg #[.int .i64 (W - V), .int .i64 Q]] w fun e w' => e = .returned (.tuple #[.int .i64 Q, .bool true]) ∧ Below w.heap.size w w' := fun w => by have h := line_any (W - V) (-V) P (W - V) Q w; rwa [k4, k6] at h
      have H_d := Lib.hid c_d
      clear c_d
      clear k1 k2 k3 k4 k5 k6
      generalize lineQ q (-V) P (W - V) Q = a at *
      generalize lineQ p (-V) P (W - V) Q = b at *
      have c0 : z.cell? ⟨g0, 0, none⟩ = some (.int .i64 (-V)) := K0.cell 0
      have c1 : z.cell? ⟨g0, 1, none⟩ = some (.int .i64 P) := K0.cell 1
      have c2 : z.cell? ⟨g1, 0, none⟩ = some (.int .i64 (W - V)) := K1.cell 0
      have c3 : z.cell? ⟨g1, 1, none⟩ = some (.int .i64 Q) := K1.cell 1
      go_wp2_with fail
      clear c0 c1 c2 c3
      refine (H_lo.out _).mono ?_
      rintro e z0 ⟨rfl, hb⟩
      replace HB := bthen' HB hb
      replace K0 := K0.below hb
      replace K1 := K1.below hb
      clear hb
      have c0 : z0.cell? ⟨g0, 0, none⟩ = some (.int .i64 (-V)) := K0.cell 0
      have c1 : z0.cell? ⟨g0, 1, none⟩ = some (.int .i64 P) := K0.cell 1
      have c2 : z0.cell? ⟨g1, 0, none⟩ = some (.int .i64 (W - V)) := K1.cell 0
      have c3 : z0.cell? ⟨g1, 1, none⟩ = some (.int .i64 Q) := K1.cell 1
      go_wp2_with fail
      clear c0 c1 c2 c3
      refine (H_hi.out _).mono ?_
      rintro e z1 ⟨rfl, hb⟩
      replace HB := bthen' HB hb
      replace K0 := K0.below hb
      replace K1 := K1.below hb
      clear hb
      have c0 : z1.cell? ⟨g0, 0, none⟩ = some (.int .i64 (-V)) := K0.cell 0
      have c1 : z1.cell? ⟨g0, 1, none⟩ = some (.int .i64 P) := K0.cell 1
      have c2 : z1.cell? ⟨g1, 0, none⟩ = some (.int .i64 (W - V)) := K1.cell 0
      have c3 : z1.cell? ⟨g1, 1, none⟩ = some (.int .i64 Q) := K1.cell 1
      go_wp2_with fail
      clear c0 c1 c2 c3
      refine (H_c.out _).mono ?_
      rintro e z2 ⟨rfl, hb⟩
      replace HB := bthen' HB hb
      replace K0 := K0.below hb
      replace K1 := K1.below hb
      clear hb
      have c0 : z2.cell? ⟨g0, 0, none⟩ = some (.int .i64 (-V)) := K0.cell 0
      have c1 : z2.cell? ⟨g0, 1, none⟩ = some (.int .i64 P) := K0.cell 1
      have c2 : z2.cell? ⟨g1, 0, none⟩ = some (.int .i64 (W - V)) := K1.cell 0
      have c3 : z2.cell? ⟨g1, 1, none⟩ = some (.int .i64 Q) := K1.cell 1
      go_wp2_with fail
      clear c0 c1 c2 c3
      refine (H_d.out _).mono ?_
      rintro e z3 ⟨rfl, hb⟩
      replace HB := bthen' HB hb
      replace K0 := K0.below hb
      replace K1 := K1.below hb
      clear hb
      have c0 : z3.cell? ⟨g0, 0, none⟩ = some (.int .i64 (-V)) := K0.cell 0
      have c1 : z3.cell? ⟨g0, 1, none⟩ = some (.int .i64 P) := K0.cell 1
      have c2 : z3.cell? ⟨g1, 0, none⟩ = some (.int .i64 (W - V)) := K1.cell 0
      have c3 : z3.cell? ⟨g1, 1, none⟩ = some (.int .i64 Q) := K1.cell 1
      have e1 : (P != P) = false := by simp
      have e2 : (Q != Q) = false := by simp
      clear H_lo H_hi H_c H_d HV
      by_cases hPQ : P ≤ Q
      · obtain ⟨m1, m2, m3⟩ := k7 hPQ
        clear k7 k8
        go_wp2
        go_ret
        exact ⟨rfl, HB⟩
      · obtain ⟨m1, m2, m3⟩ := k8 (by omega)
        clear k7 k8
        go_wp2
        go_ret
        exact ⟨rfl, HB⟩

end Go.Proofs.Ytkdcbinaglidoaa
