/- The walk of FixScalars. -/
import Derived.Test.YtkdcbinaglidoaaFixScalarsPure
import Derived.Test.YtkdcbinaglidoaaFixRounds
import Derived.Test.YtkdcbinaglidoaaWInvWords
set_option linter.unusedVariables false
set_option linter.unusedSimpArgs false
namespace Go.Proofs.Ytkdcbinaglidoaa
open Go.RowKit Go.Proofs.YtkdcbinaglidoaaW.PrintWords Go.Proofs.YtkdcbinaglidoaaW.PrintLast

def fixScalars.T2 : Bool × List (List Nat × List Nat) := (true, [([], []), ([0], [0]), ([], []), ([2], [2]), ([1, 3], [1, 3]), ([], []), ([5], [5]), ([], []), ([7], [7]), ([6, 8, 4], [6, 8]), ([], []), ([10], [10]), ([], []), ([12], [12]), ([11, 13, 9], [11, 13]), ([], []), ([], []), ([], []), ([15, 4, 14, 0, 1, 2, 3, 4, 15, 16, 17], [4, 15]), ([16, 9, 18, 0, 1, 2, 3, 4, 5, 6, 7, 8, 9, 15, 16, 17, 18], [9, 16]), ([17, 14, 19, 0, 1, 2, 3, 4, 5, 6, 7, 8, 9, 10, 11, 12, 13, 14, 15, 16, 17, 18, 19], [14, 17])])
def fixScalars.B2 : List Nat := [0, 1, 0, 4, 15, 0, 32, 0, 128, 511, 0, 1024, 0, 4096, 16383, 0, 0, 0, 262143, 524287, 1048575]
theorem fixScalars.tab2 : rtab .any (opsOf Try.f7 2) = fixScalars.T2 := by kernel_rfl
theorem fixScalars.bits2 : waitsOk fixScalars.T2.2 fixScalars.B2 = true := by kernel_rfl

set_option maxRecDepth 100000 in
set_option maxHeartbeats 4000000 in
theorem fixScalars_walk (n0 n1 n2 d0 d1 d2 : Int) (w : World) (wn0 : (Lit.int .i64 n0).wf = true) (wn1 : (Lit.int .i64 n1).wf = true) (wn2 : (Lit.int .i64 n2).wf = true) (wd0 : (Lit.int .i64 d0).wf = true) (wd1 : (Lit.int .i64 d1).wf = true) (wd2 : (Lit.int .i64 d2).wf = true) :
    Calls Try.prog 7 #[.agg #[.int .i64 n0, .int .i64 n1, .int .i64 n2], .agg #[.int .i64 d0, .int .i64 d1, .int .i64 d2]] w fun e w' => e = .returned (.bool true) ∧ Below w.heap.size w w' := by
  clear wn0 wn1 wn2 wd0 wd1 wd2
  have A1 : Blk ((w.alloc (.cells #[.int .i64 n0, .int .i64 n1, .int .i64 n2] 42)).alloc (.cells #[.int .i64 d0, .int .i64 d1, .int .i64 d2] 42)) w.heap.size #[.int .i64 n0, .int .i64 n1, .int .i64 n2] 42 := (Blk.new w _ _ rfl).alloc _
  have A2 : Blk ((w.alloc (.cells #[.int .i64 n0, .int .i64 n1, .int .i64 n2] 42)).alloc (.cells #[.int .i64 d0, .int .i64 d1, .int .i64 d2] 42)) (w.heap.size + 1) #[.int .i64 d0, .int .i64 d1, .int .i64 d2] 42 := Blk.new _ _ _ (by simp)
  have HB := balloc (balloc (Below.refl w.heap.size w) (.cells #[.int .i64 n0, .int .i64 n1, .int .i64 n2] 42)) (.cells #[.int .i64 d0, .int .i64 d1, .int .i64 d2] 42)
  obtain ⟨ra, la⟩ := made_right n0 d0
  obtain ⟨rb, lb⟩ := made_right n1 d1
  obtain ⟨rc, lc⟩ := made_right n2 d2
  have made_hid0 := Lib.hid (fun w => rmade_any n0 d0 w)
  have made_hid1 := Lib.hid (fun w => rmade_any n1 d1 w)
  have made_hid2 := Lib.hid (fun w => rmade_any n2 d2 w)
  generalize madeN n0 d0 = an at *
  generalize madeD n0 d0 = ad at *
  generalize madeN n1 d1 = bn at *
  generalize madeD n1 d1 = bd at *
  generalize madeN n2 d2 = cn at *
  generalize madeD n2 d2 = cd at *
  obtain ⟨o1, o2, r1, r2, q1, o3, o4, E1, E2, E3, E4⟩ := scalars_facts ra rb rc la lb lc
  obtain ⟨o5, E5, E6⟩ := times_one ra
  obtain ⟨o6, E7, E8⟩ := times_zero ra
  obtain ⟨o7, E9, E10⟩ := times_comm' an ad bn bd
  rw [o1] at o7
  obtain ⟨a1, a2, a3, a4, -⟩ := rightB_true.1 ra
  obtain ⟨b1, b2, b3, b4, -⟩ := rightB_true.1 rb
  obtain ⟨p1, p2, p3, p4, -⟩ := rightB_true.1 r1
  have c_ab : ∀ w, Calls Try.prog 26 #[.agg #[.int .i64 an, .int .i64 ad], .agg #[.int .i64 bn, .int .i64 bd]] w fun e w' => e = .returned (.tuple #[.agg #[.int .i64 (timesN an ad bn bd), .int .i64 (timesD an ad bn bd)], .bool true]) ∧ Below w.heap.size w w' := fun w => by have h := times_any an ad bn bd w; rwa [o1] at h
  have c_ba : ∀ w, Calls Try.prog 26 #[.agg #[.int .i64 bn, .int .i64 bd], .agg #[.int .i64 an, .int .i64 ad]] w fun e w' => e = .returned (.tuple #[.agg #[.int .i64 (timesN an ad bn bd), .int .i64 (timesD an ad bn bd)], .bool true]) ∧ Below w.heap.size w w' := fun w => by have h := times_any bn bd an ad w; rwa [o7, E9, E10] at h
  have c_bc : ∀ w, Calls Try.prog 26 #[.agg #[.int .i64 bn, .int .i64 bd], .agg #[.int .i64 cn, .int .i64 cd]] w fun e w' => e = .returned (.tuple #[.agg #[.int .i64 (timesN bn bd cn cd), .int .i64 (timesD bn bd cn cd)], .bool true]) ∧ Below w.heap.size w w' := fun w => by have h := times_any bn bd cn cd w; rwa [o2] at h
  have c_one : ∀ w, Calls Try.prog 26 #[.agg #[.int .i64 an, .int .i64 ad], .agg #[.int .i64 1, .int .i64 1]] w fun e w' => e = .returned (.tuple #[.agg #[.int .i64 an, .int .i64 ad], .bool true]) ∧ Below w.heap.size w w' := fun w => by have h := times_any an ad 1 1 w; rwa [o5, E5, E6] at h
  have c_zero : ∀ w, Calls Try.prog 26 #[.agg #[.int .i64 an, .int .i64 ad], .agg #[.int .i64 0, .int .i64 1]] w fun e w' => e = .returned (.tuple #[.agg #[.int .i64 0, .int .i64 1], .bool true]) ∧ Below w.heap.size w w' := fun w => by have h := times_any an ad 0 1 w; rwa [o6, E7, E8] at h
  clear o5 o6 o7 E5 E6 E7 E8 E9 E10
  generalize timesN an ad bn bd = un at *
  generalize timesD an ad bn bd = ud at *
  generalize timesN bn bd cn cd = vn at *
  generalize timesD bn bd cn cd = vd at *
  have c_x : ∀ w, Calls Try.prog 26 #[.agg #[.int .i64 un, .int .i64 ud], .agg #[.int .i64 cn, .int .i64 cd]] w fun e w' => e = .returned (.tuple #[.agg #[.int .i64 (timesN un ud cn cd), .int .i64 (timesD un ud cn cd)], .bool true]) ∧ Below w.heap.size w w' := fun w => by have h := times_any un ud cn cd w; rwa [o3] at h
  have c_y : ∀ w, Calls Try.prog 26 #[.agg #[.int .i64 an, .int .i64 ad], .agg #[.int .i64 vn, .int .i64 vd]] w fun e w' => e = .returned (.tuple #[.agg #[.int .i64 (timesN un ud cn cd), .int .i64 (timesD un ud cn cd)], .bool true]) ∧ Below w.heap.size w w' := fun w => by have h := times_any an ad vn vd w; rwa [o4, ← E1, ← E2] at h
  clear o1 o2 o3 o4 E1 E2 ra rb rc r1 r2
  generalize timesN un ud cn cd = xn at *
  generalize timesD un ud cn cd = xd at *
  have HC_ab := Lib.hid c_ab
  have HC_ba := Lib.hid c_ba
  have HC_bc := Lib.hid c_bc
  have HC_one := Lib.hid c_one
  have HC_zero := Lib.hid c_zero
  have HC_x := Lib.hid c_x
  have HC_y := Lib.hid c_y
  have HE3 := Lib.hid E3
  clear c_ab c_ba c_bc c_one c_zero c_x c_y E3
  go_enter Try.func7, Try.ntmps7
  go_wp2_with fail
  refine (sanity_any _).mono ?_
  rintro e w1 ⟨rfl, hb⟩
  replace HB := bthen' HB hb
  replace A1 := A1.below hb
  replace A2 := A2.below hb
  clear hb
  go_wp2_with fail
  refine start_ (n := 21) (S := fun w' => True) (ds := []) #[false, false, false, false, false, false, false, false, false, false, false, false, false, false, false, false, false, false, false, false, false] (by kernel_rfl) rfl rfl trivial (fun hHeld => ?_)
  refine with_tabW fixScalars.tab2 fixScalars.bits2 (fun HT_ HW_ => ?_)
  replace HB := Aside0.mk (bdrew HB)
  replace A1 := Aside0.mk A1.drew
  replace A2 := Aside0.mk A2.drew
  generalize w1.drew = w1' at *
  have L0 : Aside0 (0 < w1'.heap.size) := ⟨Nat.lt_of_le_of_lt (Nat.zero_le _) A2.out.lt⟩
  have L1 := L0
  have L2 := L0
  refine inv_at [0, 1, 2, 3, 4, 5, 6, 7, 8, 9, 10, 11, 12, 13, 14, 15, 16, 17, 18, 19, 20] (fun a0_ b a w' => ∃ (g0 : Nat) (g1 : Nat) (g2 : Nat) (m15_ : Value) (m16_ : Value) (m17_ : Value), a = putSel a0_ b [(0, 24, .pointer (some ⟨w.heap.size, 0, none⟩)), (1, 25, .int .i64 n0), (2, 26, .pointer (some ⟨(w.heap.size + 1), 0, none⟩)), (3, 27, .int .i64 d0), (4, 28, .agg #[.int .i64 an, .int .i64 ad]), (5, 29, .pointer (some ⟨w.heap.size, 1, none⟩)), (6, 30, .int .i64 n1), (7, 31, .pointer (some ⟨(w.heap.size + 1), 1, none⟩)), (8, 32, .int .i64 d1), (9, 33, .agg #[.int .i64 bn, .int .i64 bd]), (10, 34, .pointer (some ⟨w.heap.size, 2, none⟩)), (11, 35, .int .i64 n2), (12, 36, .pointer (some ⟨(w.heap.size + 1), 2, none⟩)), (13, 37, .int .i64 d2), (14, 38, .agg #[.int .i64 cn, .int .i64 cd]), (15, 6, m15_), (16, 7, m16_), (17, 8, m17_)] ∧ (Below w.heap.size w w') ∧ (Blk w' w.heap.size #[.int .i64 n0, .int .i64 n1, .int .i64 n2] 42) ∧ (Blk w' (w.heap.size + 1) #[.int .i64 d0, .int .i64 d1, .int .i64 d2] 42) ∧ (b 15 = true → b 18 = false → Blk w' g0 #[.int .i64 0, .int .i64 0] 31) ∧ (b 15 = true → b 18 = true → Blk w' g0 #[.int .i64 an, .int .i64 ad] 31) ∧ (b 15 = true → w.heap.size + 1 < g0) ∧ (g0 < w'.heap.size) ∧ (b 16 = true → b 19 = false → Blk w' g1 #[.int .i64 0, .int .i64 0] 31) ∧ (b 16 = true → b 19 = true → Blk w' g1 #[.int .i64 bn, .int .i64 bd] 31) ∧ (b 16 = true → w.heap.size + 1 < g1) ∧ (g1 < w'.heap.size) ∧ (b 17 = true → b 20 = false → Blk w' g2 #[.int .i64 0, .int .i64 0] 31) ∧ (b 17 = true → b 20 = true → Blk w' g2 #[.int .i64 cn, .int .i64 cd] 31) ∧ (b 17 = true → w.heap.size + 1 < g2) ∧ (g2 < w'.heap.size) ∧ (b 15 = true → b 16 = true → g0 ≠ g1) ∧ (b 15 = true → b 17 = true → g0 ≠ g2) ∧ (b 16 = true → b 17 = true → g1 ≠ g2) ∧ (b 15 = true → (m15_ : Value) = .pointer (some ⟨g0, 0, none⟩)) ∧ (b 16 = true → (m16_ : Value) = .pointer (some ⟨g1, 0, none⟩)) ∧ (b 17 = true → (m17_ : Value) = .pointer (some ⟨g2, 0, none⟩))) HT_.out HW_.out (by kernel_rfl) (by kernel_rfl) ?_ ?_ ?_
  · exact ⟨0, 0, 0, .bool false, .bool false, .bool false, by simp only [putSel, Bool.false_eq_true, if_false], HB.out, A1.out, A2.out, fun h_ => absurd h_ (by decide), fun h_ => absurd h_ (by decide), fun h_ => absurd h_ (by decide), L0.out, fun h_ => absurd h_ (by decide), fun h_ => absurd h_ (by decide), fun h_ => absurd h_ (by decide), L1.out, fun h_ => absurd h_ (by decide), fun h_ => absurd h_ (by decide), fun h_ => absurd h_ (by decide), L2.out, fun h_ => absurd h_ (by decide), fun h_ => absurd h_ (by decide), fun h_ => absurd h_ (by decide), fun h_ => absurd h_ (by decide), fun h_ => absurd h_ (by decide), fun h_ => absurd h_ (by decide)⟩
  · skip
    clear A1 A2 HB L0 L1 L2
    refine steps_cons ?_ ?_
    · rintro b a w' ⟨g0, g1, g2, m15_, m16_, m17_, ha, Q_HB, Q_A1, Q_A2, Q_Z0, Q_F0, Q_G0, Q_L0, Q_Z1, Q_F1, Q_G1, Q_L1, Q_Z2, Q_F2, Q_G2, Q_L2, Q_NE01, Q_NE02, Q_NE12, Q_X15_, Q_X16_, Q_X17_⟩ hb_ hon hoff
      refine ⟨_, rfl, fun K hK => ?_⟩
      have e2 : a.tmps[2]? = some (.pointer (some ⟨w.heap.size, 0, none⟩)) := by rw [ha]; exact (putSel_off rfl).trans rfl
      replace ha := Aside0.mk ha
      have HB := Aside0.mk Q_HB
      have A1 := Aside0.mk Q_A1
      have A2 := Aside0.mk Q_A2
      have L0 := Aside0.mk Q_L0
      have L1 := Aside0.mk Q_L1
      have L2 := Aside0.mk Q_L2
      refine value_ (w1 := w') (v := .pointer (some ⟨w.heap.size, 0, none⟩)) (by rfl) rfl ?_ ?_
      · go_simp
        (try simp only [i64_w])
        try rfl
      refine hK.out _ _ ⟨g0, g1, g2, m15_, m16_, m17_, (by rw [ha.out]; exact putSel_upk 0 hb_ rfl rfl rfl), Q_HB, Q_A1, Q_A2, Q_Z0, fun _ h1_ => absurd ((hoff 18 (by kernel_rfl)).symm.trans h1_) (by decide), Q_G0, Q_L0, Q_Z1, fun _ h1_ => absurd ((hoff 19 (by kernel_rfl)).symm.trans h1_) (by decide), Q_G1, Q_L1, Q_Z2, fun _ h1_ => absurd ((hoff 20 (by kernel_rfl)).symm.trans h1_) (by decide), Q_G2, Q_L2, Q_NE01, Q_NE02, Q_NE12, Q_X15_, Q_X16_, Q_X17_⟩
    refine steps_cons ?_ ?_
    · rintro b a w' ⟨g0, g1, g2, m15_, m16_, m17_, ha, Q_HB, Q_A1, Q_A2, Q_Z0, Q_F0, Q_G0, Q_L0, Q_Z1, Q_F1, Q_G1, Q_L1, Q_Z2, Q_F2, Q_G2, Q_L2, Q_NE01, Q_NE02, Q_NE12, Q_X15_, Q_X16_, Q_X17_⟩ hb_ hon hoff
      refine ⟨_, rfl, fun K hK => ?_⟩
      have e24 : a.tmps[24]? = some (.pointer (some ⟨w.heap.size, 0, none⟩)) := by rw [ha]; exact putSel_on (e := (0, 24, .pointer (some ⟨w.heap.size, 0, none⟩))) 0 rfl rfl (hon 0 (by kernel_rfl)) rfl
      replace ha := Aside0.mk ha
      have HB := Aside0.mk Q_HB
      have A1 := Aside0.mk Q_A1
      have A2 := Aside0.mk Q_A2
      have L0 := Aside0.mk Q_L0
      have L1 := Aside0.mk Q_L1
      have L2 := Aside0.mk Q_L2
      have c0 : w'.cell? ⟨w.heap.size, 0, none⟩ = some (.int .i64 n0) := A1.out.cell 0
      refine value_ (w1 := w') (v := .int .i64 n0) (by rfl) rfl ?_ ?_
      · go_simp
        (try simp only [i64_w])
        try rfl
      refine hK.out _ _ ⟨g0, g1, g2, m15_, m16_, m17_, (by rw [ha.out]; exact putSel_upk 1 hb_ rfl rfl rfl), Q_HB, Q_A1, Q_A2, Q_Z0, fun _ h1_ => absurd ((hoff 18 (by kernel_rfl)).symm.trans h1_) (by decide), Q_G0, Q_L0, Q_Z1, fun _ h1_ => absurd ((hoff 19 (by kernel_rfl)).symm.trans h1_) (by decide), Q_G1, Q_L1, Q_Z2, fun _ h1_ => absurd ((hoff 20 (by kernel_rfl)).symm.trans h1_) (by decide), Q_G2, Q_L2, Q_NE01, Q_NE02, Q_NE12, Q_X15_, Q_X16_, Q_X17_⟩
    refine steps_cons ?_ ?_
    · rintro b a w' ⟨g0, g1, g2, m15_, m16_, m17_, ha, Q_HB, Q_A1, Q_A2, Q_Z0, Q_F0, Q_G0, Q_L0, Q_Z1, Q_F1, Q_G1, Q_L1, Q_Z2, Q_F2, Q_G2, Q_L2, Q_NE01, Q_NE02, Q_NE12, Q_X15_, Q_X16_, Q_X17_⟩ hb_ hon hoff
      refine ⟨_, rfl, fun K hK => ?_⟩
      have e3 : a.tmps[3]? = some (.pointer (some ⟨(w.heap.size + 1), 0, none⟩)) := by rw [ha]; exact (putSel_off rfl).trans rfl
      replace ha := Aside0.mk ha
      have HB := Aside0.mk Q_HB
      have A1 := Aside0.mk Q_A1
      have A2 := Aside0.mk Q_A2
      have L0 := Aside0.mk Q_L0
      have L1 := Aside0.mk Q_L1
      have L2 := Aside0.mk Q_L2
      refine value_ (w1 := w') (v := .pointer (some ⟨(w.heap.size + 1), 0, none⟩)) (by rfl) rfl ?_ ?_
      · go_simp
        (try simp only [i64_w])
        try rfl
      refine hK.out _ _ ⟨g0, g1, g2, m15_, m16_, m17_, (by rw [ha.out]; exact putSel_upk 2 hb_ rfl rfl rfl), Q_HB, Q_A1, Q_A2, Q_Z0, fun _ h1_ => absurd ((hoff 18 (by kernel_rfl)).symm.trans h1_) (by decide), Q_G0, Q_L0, Q_Z1, fun _ h1_ => absurd ((hoff 19 (by kernel_rfl)).symm.trans h1_) (by decide), Q_G1, Q_L1, Q_Z2, fun _ h1_ => absurd ((hoff 20 (by kernel_rfl)).symm.trans h1_) (by decide), Q_G2, Q_L2, Q_NE01, Q_NE02, Q_NE12, Q_X15_, Q_X16_, Q_X17_⟩
    refine steps_cons ?_ ?_
    · rintro b a w' ⟨g0, g1, g2, m15_, m16_, m17_, ha, Q_HB, Q_A1, Q_A2, Q_Z0, Q_F0, Q_G0, Q_L0, Q_Z1, Q_F1, Q_G1, Q_L1, Q_Z2, Q_F2, Q_G2, Q_L2, Q_NE01, Q_NE02, Q_NE12, Q_X15_, Q_X16_, Q_X17_⟩ hb_ hon hoff
      refine ⟨_, rfl, fun K hK => ?_⟩
      have e26 : a.tmps[26]? = some (.pointer (some ⟨(w.heap.size + 1), 0, none⟩)) := by rw [ha]; exact putSel_on (e := (2, 26, .pointer (some ⟨(w.heap.size + 1), 0, none⟩))) 2 rfl rfl (hon 2 (by kernel_rfl)) rfl
      replace ha := Aside0.mk ha
      have HB := Aside0.mk Q_HB
      have A1 := Aside0.mk Q_A1
      have A2 := Aside0.mk Q_A2
      have L0 := Aside0.mk Q_L0
      have L1 := Aside0.mk Q_L1
      have L2 := Aside0.mk Q_L2
      have c0 : w'.cell? ⟨w.heap.size + 1, 0, none⟩ = some (.int .i64 d0) := A2.out.cell 0
      refine value_ (w1 := w') (v := .int .i64 d0) (by rfl) rfl ?_ ?_
      · go_simp
        (try simp only [i64_w])
        try rfl
      refine hK.out _ _ ⟨g0, g1, g2, m15_, m16_, m17_, (by rw [ha.out]; exact putSel_upk 3 hb_ rfl rfl rfl), Q_HB, Q_A1, Q_A2, Q_Z0, fun _ h1_ => absurd ((hoff 18 (by kernel_rfl)).symm.trans h1_) (by decide), Q_G0, Q_L0, Q_Z1, fun _ h1_ => absurd ((hoff 19 (by kernel_rfl)).symm.trans h1_) (by decide), Q_G1, Q_L1, Q_Z2, fun _ h1_ => absurd ((hoff 20 (by kernel_rfl)).symm.trans h1_) (by decide), Q_G2, Q_L2, Q_NE01, Q_NE02, Q_NE12, Q_X15_, Q_X16_, Q_X17_⟩
    refine steps_cons ?_ ?_
    · rintro b a w' ⟨g0, g1, g2, m15_, m16_, m17_, ha, Q_HB, Q_A1, Q_A2, Q_Z0, Q_F0, Q_G0, Q_L0, Q_Z1, Q_F1, Q_G1, Q_L1, Q_Z2, Q_F2, Q_G2, Q_L2, Q_NE01, Q_NE02, Q_NE12, Q_X15_, Q_X16_, Q_X17_⟩ hb_ hon hoff
      refine ⟨_, rfl, fun K hK => ?_⟩
      have e25 : a.tmps[25]? = some (.int .i64 n0) := by rw [ha]; exact putSel_on (e := (1, 25, .int .i64 n0)) 1 rfl rfl (hon 1 (by kernel_rfl)) rfl
      have e27 : a.tmps[27]? = some (.int .i64 d0) := by rw [ha]; exact putSel_on (e := (3, 27, .int .i64 d0)) 3 rfl rfl (hon 3 (by kernel_rfl)) rfl
      replace ha := Aside0.mk ha
      have HB := Aside0.mk Q_HB
      have A1 := Aside0.mk Q_A1
      have A2 := Aside0.mk Q_A2
      have L0 := Aside0.mk Q_L0
      have L1 := Aside0.mk Q_L1
      have L2 := Aside0.mk Q_L2
      refine goes_ Try.func23 (by kernel_rfl) rfl #[.int .i64 n0, .int .i64 d0] (by rfl) rfl rfl (by first | (simp only [List.map_toArray, List.map_cons, List.map_nil, Act.eval, Array.getD_eq_getD_getElem?, Option.getD_some, e25, e27]; done) | (simp only [List.map_toArray, List.map_cons, List.map_nil, Act.eval, Array.getD_eq_getD_getElem?, Option.getD_some, e25, e27]; rfl)) ?_
      refine (made_hid0.out w').mono ?_
      rintro e w2 ⟨rfl, hb⟩
      refine ⟨_, rfl, ?_⟩
      refine hK.out _ _ ⟨g0, g1, g2, m15_, m16_, m17_, (by rw [ha.out]; exact putSel_upk 4 hb_ rfl rfl rfl), bthen' HB.out hb, A1.out.below hb, A2.out.below hb, fun h0_ h1_ => (Q_Z0 h0_ h1_).below hb, fun _ h1_ => absurd ((hoff 18 (by kernel_rfl)).symm.trans h1_) (by decide), Q_G0, Nat.lt_of_lt_of_le L0.out hb.size, fun h0_ h1_ => (Q_Z1 h0_ h1_).below hb, fun _ h1_ => absurd ((hoff 19 (by kernel_rfl)).symm.trans h1_) (by decide), Q_G1, Nat.lt_of_lt_of_le L1.out hb.size, fun h0_ h1_ => (Q_Z2 h0_ h1_).below hb, fun _ h1_ => absurd ((hoff 20 (by kernel_rfl)).symm.trans h1_) (by decide), Q_G2, Nat.lt_of_lt_of_le L2.out hb.size, Q_NE01, Q_NE02, Q_NE12, Q_X15_, Q_X16_, Q_X17_⟩
    refine steps_cons ?_ ?_
    · rintro b a w' ⟨g0, g1, g2, m15_, m16_, m17_, ha, Q_HB, Q_A1, Q_A2, Q_Z0, Q_F0, Q_G0, Q_L0, Q_Z1, Q_F1, Q_G1, Q_L1, Q_Z2, Q_F2, Q_G2, Q_L2, Q_NE01, Q_NE02, Q_NE12, Q_X15_, Q_X16_, Q_X17_⟩ hb_ hon hoff
      refine ⟨_, rfl, fun K hK => ?_⟩
      have e2 : a.tmps[2]? = some (.pointer (some ⟨w.heap.size, 0, none⟩)) := by rw [ha]; exact (putSel_off rfl).trans rfl
      replace ha := Aside0.mk ha
      have HB := Aside0.mk Q_HB
      have A1 := Aside0.mk Q_A1
      have A2 := Aside0.mk Q_A2
      have L0 := Aside0.mk Q_L0
      have L1 := Aside0.mk Q_L1
      have L2 := Aside0.mk Q_L2
      refine value_ (w1 := w') (v := .pointer (some ⟨w.heap.size, 1, none⟩)) (by rfl) rfl ?_ ?_
      · go_simp
        (try simp only [i64_w])
        try rfl
      refine hK.out _ _ ⟨g0, g1, g2, m15_, m16_, m17_, (by rw [ha.out]; exact putSel_upk 5 hb_ rfl rfl rfl), Q_HB, Q_A1, Q_A2, Q_Z0, fun _ h1_ => absurd ((hoff 18 (by kernel_rfl)).symm.trans h1_) (by decide), Q_G0, Q_L0, Q_Z1, fun _ h1_ => absurd ((hoff 19 (by kernel_rfl)).symm.trans h1_) (by decide), Q_G1, Q_L1, Q_Z2, fun _ h1_ => absurd ((hoff 20 (by kernel_rfl)).symm.trans h1_) (by decide), Q_G2, Q_L2, Q_NE01, Q_NE02, Q_NE12, Q_X15_, Q_X16_, Q_X17_⟩
    refine steps_cons ?_ ?_
    · rintro b a w' ⟨g0, g1, g2, m15_, m16_, m17_, ha, Q_HB, Q_A1, Q_A2, Q_Z0, Q_F0, Q_G0, Q_L0, Q_Z1, Q_F1, Q_G1, Q_L1, Q_Z2, Q_F2, Q_G2, Q_L2, Q_NE01, Q_NE02, Q_NE12, Q_X15_, Q_X16_, Q_X17_⟩ hb_ hon hoff
      refine ⟨_, rfl, fun K hK => ?_⟩
      have e29 : a.tmps[29]? = some (.pointer (some ⟨w.heap.size, 1, none⟩)) := by rw [ha]; exact putSel_on (e := (5, 29, .pointer (some ⟨w.heap.size, 1, none⟩))) 5 rfl rfl (hon 5 (by kernel_rfl)) rfl
      replace ha := Aside0.mk ha
      have HB := Aside0.mk Q_HB
      have A1 := Aside0.mk Q_A1
      have A2 := Aside0.mk Q_A2
      have L0 := Aside0.mk Q_L0
      have L1 := Aside0.mk Q_L1
      have L2 := Aside0.mk Q_L2
      have c0 : w'.cell? ⟨w.heap.size, 1, none⟩ = some (.int .i64 n1) := A1.out.cell 1
      refine value_ (w1 := w') (v := .int .i64 n1) (by rfl) rfl ?_ ?_
      · go_simp
        (try simp only [i64_w])
        try rfl
      refine hK.out _ _ ⟨g0, g1, g2, m15_, m16_, m17_, (by rw [ha.out]; exact putSel_upk 6 hb_ rfl rfl rfl), Q_HB, Q_A1, Q_A2, Q_Z0, fun _ h1_ => absurd ((hoff 18 (by kernel_rfl)).symm.trans h1_) (by decide), Q_G0, Q_L0, Q_Z1, fun _ h1_ => absurd ((hoff 19 (by kernel_rfl)).symm.trans h1_) (by decide), Q_G1, Q_L1, Q_Z2, fun _ h1_ => absurd ((hoff 20 (by kernel_rfl)).symm.trans h1_) (by decide), Q_G2, Q_L2, Q_NE01, Q_NE02, Q_NE12, Q_X15_, Q_X16_, Q_X17_⟩
    refine steps_cons ?_ ?_
    · rintro b a w' ⟨g0, g1, g2, m15_, m16_, m17_, ha, Q_HB, Q_A1, Q_A2, Q_Z0, Q_F0, Q_G0, Q_L0, Q_Z1, Q_F1, Q_G1, Q_L1, Q_Z2, Q_F2, Q_G2, Q_L2, Q_NE01, Q_NE02, Q_NE12, Q_X15_, Q_X16_, Q_X17_⟩ hb_ hon hoff
      refine ⟨_, rfl, fun K hK => ?_⟩
      have e3 : a.tmps[3]? = some (.pointer (some ⟨(w.heap.size + 1), 0, none⟩)) := by rw [ha]; exact (putSel_off rfl).trans rfl
      replace ha := Aside0.mk ha
      have HB := Aside0.mk Q_HB
      have A1 := Aside0.mk Q_A1
      have A2 := Aside0.mk Q_A2
      have L0 := Aside0.mk Q_L0
      have L1 := Aside0.mk Q_L1
      have L2 := Aside0.mk Q_L2
      refine value_ (w1 := w') (v := .pointer (some ⟨(w.heap.size + 1), 1, none⟩)) (by rfl) rfl ?_ ?_
      · go_simp
        (try simp only [i64_w])
        try rfl
      refine hK.out _ _ ⟨g0, g1, g2, m15_, m16_, m17_, (by rw [ha.out]; exact putSel_upk 7 hb_ rfl rfl rfl), Q_HB, Q_A1, Q_A2, Q_Z0, fun _ h1_ => absurd ((hoff 18 (by kernel_rfl)).symm.trans h1_) (by decide), Q_G0, Q_L0, Q_Z1, fun _ h1_ => absurd ((hoff 19 (by kernel_rfl)).symm.trans h1_) (by decide), Q_G1, Q_L1, Q_Z2, fun _ h1_ => absurd ((hoff 20 (by kernel_rfl)).symm.trans h1_) (by decide), Q_G2, Q_L2, Q_NE01, Q_NE02, Q_NE12, Q_X15_, Q_X16_, Q_X17_⟩
    refine steps_cons ?_ ?_
    · rintro b a w' ⟨g0, g1, g2, m15_, m16_, m17_, ha, Q_HB, Q_A1, Q_A2, Q_Z0, Q_F0, Q_G0, Q_L0, Q_Z1, Q_F1, Q_G1, Q_L1, Q_Z2, Q_F2, Q_G2, Q_L2, Q_NE01, Q_NE02, Q_NE12, Q_X15_, Q_X16_, Q_X17_⟩ hb_ hon hoff
      refine ⟨_, rfl, fun K hK => ?_⟩
      have e31 : a.tmps[31]? = some (.pointer (some ⟨(w.heap.size + 1), 1, none⟩)) := by rw [ha]; exact putSel_on (e := (7, 31, .pointer (some ⟨(w.heap.size + 1), 1, none⟩))) 7 rfl rfl (hon 7 (by kernel_rfl)) rfl
      replace ha := Aside0.mk ha
      have HB := Aside0.mk Q_HB
      have A1 := Aside0.mk Q_A1
      have A2 := Aside0.mk Q_A2
      have L0 := Aside0.mk Q_L0
      have L1 := Aside0.mk Q_L1
      have L2 := Aside0.mk Q_L2
      have c0 : w'.cell? ⟨w.heap.size + 1, 1, none⟩ = some (.int .i64 d1) := A2.out.cell 1
      refine value_ (w1 := w') (v := .int .i64 d1) (by rfl) rfl ?_ ?_
      · go_simp
        (try simp only [i64_w])
        try rfl
      refine hK.out _ _ ⟨g0, g1, g2, m15_, m16_, m17_, (by rw [ha.out]; exact putSel_upk 8 hb_ rfl rfl rfl), Q_HB, Q_A1, Q_A2, Q_Z0, fun _ h1_ => absurd ((hoff 18 (by kernel_rfl)).symm.trans h1_) (by decide), Q_G0, Q_L0, Q_Z1, fun _ h1_ => absurd ((hoff 19 (by kernel_rfl)).symm.trans h1_) (by decide), Q_G1, Q_L1, Q_Z2, fun _ h1_ => absurd ((hoff 20 (by kernel_rfl)).symm.trans h1_) (by decide), Q_G2, Q_L2, Q_NE01, Q_NE02, Q_NE12, Q_X15_, Q_X16_, Q_X17_⟩
    refine steps_cons ?_ ?_
    · rintro b a w' ⟨g0, g1, g2, m15_, m16_, m17_, ha, Q_HB, Q_A1, Q_A2, Q_Z0, Q_F0, Q_G0, Q_L0, Q_Z1, Q_F1, Q_G1, Q_L1, Q_Z2, Q_F2, Q_G2, Q_L2, Q_NE01, Q_NE02, Q_NE12, Q_X15_, Q_X16_, Q_X17_⟩ hb_ hon hoff
      refine ⟨_, rfl, fun K hK => ?_⟩
      have e30 : a.tmps[30]? = some (.int .i64 n1) := by rw [ha]; exact putSel_on (e := (6, 30, .int .i64 n1)) 6 rfl rfl (hon 6 (by kernel_rfl)) rfl
      have e32 : a.tmps[32]? = some (.int .i64 d1) := by rw [ha]; exact putSel_on (e := (8, 32, .int .i64 d1)) 8 rfl rfl (hon 8 (by kernel_rfl)) rfl
      replace ha := Aside0.mk ha
      have HB := Aside0.mk Q_HB
      have A1 := Aside0.mk Q_A1
      have A2 := Aside0.mk Q_A2
      have L0 := Aside0.mk Q_L0
      have L1 := Aside0.mk Q_L1
      have L2 := Aside0.mk Q_L2
      refine goes_ Try.func23 (by kernel_rfl) rfl #[.int .i64 n1, .int .i64 d1] (by rfl) rfl rfl (by first | (simp only [List.map_toArray, List.map_cons, List.map_nil, Act.eval, Array.getD_eq_getD_getElem?, Option.getD_some, e30, e32]; done) | (simp only [List.map_toArray, List.map_cons, List.map_nil, Act.eval, Array.getD_eq_getD_getElem?, Option.getD_some, e30, e32]; rfl)) ?_
      refine (made_hid1.out w').mono ?_
      rintro e w2 ⟨rfl, hb⟩
      refine ⟨_, rfl, ?_⟩
      refine hK.out _ _ ⟨g0, g1, g2, m15_, m16_, m17_, (by rw [ha.out]; exact putSel_upk 9 hb_ rfl rfl rfl), bthen' HB.out hb, A1.out.below hb, A2.out.below hb, fun h0_ h1_ => (Q_Z0 h0_ h1_).below hb, fun _ h1_ => absurd ((hoff 18 (by kernel_rfl)).symm.trans h1_) (by decide), Q_G0, Nat.lt_of_lt_of_le L0.out hb.size, fun h0_ h1_ => (Q_Z1 h0_ h1_).below hb, fun _ h1_ => absurd ((hoff 19 (by kernel_rfl)).symm.trans h1_) (by decide), Q_G1, Nat.lt_of_lt_of_le L1.out hb.size, fun h0_ h1_ => (Q_Z2 h0_ h1_).below hb, fun _ h1_ => absurd ((hoff 20 (by kernel_rfl)).symm.trans h1_) (by decide), Q_G2, Nat.lt_of_lt_of_le L2.out hb.size, Q_NE01, Q_NE02, Q_NE12, Q_X15_, Q_X16_, Q_X17_⟩
    refine steps_cons ?_ ?_
    · rintro b a w' ⟨g0, g1, g2, m15_, m16_, m17_, ha, Q_HB, Q_A1, Q_A2, Q_Z0, Q_F0, Q_G0, Q_L0, Q_Z1, Q_F1, Q_G1, Q_L1, Q_Z2, Q_F2, Q_G2, Q_L2, Q_NE01, Q_NE02, Q_NE12, Q_X15_, Q_X16_, Q_X17_⟩ hb_ hon hoff
      refine ⟨_, rfl, fun K hK => ?_⟩
      have e2 : a.tmps[2]? = some (.pointer (some ⟨w.heap.size, 0, none⟩)) := by rw [ha]; exact (putSel_off rfl).trans rfl
      replace ha := Aside0.mk ha
      have HB := Aside0.mk Q_HB
      have A1 := Aside0.mk Q_A1
      have A2 := Aside0.mk Q_A2
      have L0 := Aside0.mk Q_L0
      have L1 := Aside0.mk Q_L1
      have L2 := Aside0.mk Q_L2
      refine value_ (w1 := w') (v := .pointer (some ⟨w.heap.size, 2, none⟩)) (by rfl) rfl ?_ ?_
      · go_simp
        (try simp only [i64_w])
        try rfl
      refine hK.out _ _ ⟨g0, g1, g2, m15_, m16_, m17_, (by rw [ha.out]; exact putSel_upk 10 hb_ rfl rfl rfl), Q_HB, Q_A1, Q_A2, Q_Z0, fun _ h1_ => absurd ((hoff 18 (by kernel_rfl)).symm.trans h1_) (by decide), Q_G0, Q_L0, Q_Z1, fun _ h1_ => absurd ((hoff 19 (by kernel_rfl)).symm.trans h1_) (by decide), Q_G1, Q_L1, Q_Z2, fun _ h1_ => absurd ((hoff 20 (by kernel_rfl)).symm.trans h1_) (by decide), Q_G2, Q_L2, Q_NE01, Q_NE02, Q_NE12, Q_X15_, Q_X16_, Q_X17_⟩
    refine steps_cons ?_ ?_
    · rintro b a w' ⟨g0, g1, g2, m15_, m16_, m17_, ha, Q_HB, Q_A1, Q_A2, Q_Z0, Q_F0, Q_G0, Q_L0, Q_Z1, Q_F1, Q_G1, Q_L1, Q_Z2, Q_F2, Q_G2, Q_L2, Q_NE01, Q_NE02, Q_NE12, Q_X15_, Q_X16_, Q_X17_⟩ hb_ hon hoff
      refine ⟨_, rfl, fun K hK => ?_⟩
      have e34 : a.tmps[34]? = some (.pointer (some ⟨w.heap.size, 2, none⟩)) := by rw [ha]; exact putSel_on (e := (10, 34, .pointer (some ⟨w.heap.size, 2, none⟩))) 10 rfl rfl (hon 10 (by kernel_rfl)) rfl
      replace ha := Aside0.mk ha
      have HB := Aside0.mk Q_HB
      have A1 := Aside0.mk Q_A1
      have A2 := Aside0.mk Q_A2
      have L0 := Aside0.mk Q_L0
      have L1 := Aside0.mk Q_L1
      have L2 := Aside0.mk Q_L2
      have c0 : w'.cell? ⟨w.heap.size, 2, none⟩ = some (.int .i64 n2) := A1.out.cell 2
      refine value_ (w1 := w') (v := .int .i64 n2) (by rfl) rfl ?_ ?_
      · go_simp
        (try simp only [i64_w])
        try rfl
      refine hK.out _ _ ⟨g0, g1, g2, m15_, m16_, m17_, (by rw [ha.out]; exact putSel_upk 11 hb_ rfl rfl rfl), Q_HB, Q_A1, Q_A2, Q_Z0, fun _ h1_ => absurd ((hoff 18 (by kernel_rfl)).symm.trans h1_) (by decide), Q_G0, Q_L0, Q_Z1, fun _ h1_ => absurd ((hoff 19 (by kernel_rfl)).symm.trans h1_) (by decide), Q_G1, Q_L1, Q_Z2, fun _ h1_ => absurd ((hoff 20 (by kernel_rfl)).symm.trans h1_) (by decide), Q_G2, Q_L2, Q_NE01, Q_NE02, Q_NE12, Q_X15_, Q_X16_, Q_X17_⟩
    refine steps_cons ?_ ?_
    · rintro b a w' ⟨g0, g1, g2, m15_, m16_, m17_, ha, Q_HB, Q_A1, Q_A2, Q_Z0, Q_F0, Q_G0, Q_L0, Q_Z1, Q_F1, Q_G1, Q_L1, Q_Z2, Q_F2, Q_G2, Q_L2, Q_NE01, Q_NE02, Q_NE12, Q_X15_, Q_X16_, Q_X17_⟩ hb_ hon hoff
      refine ⟨_, rfl, fun K hK => ?_⟩
      have e3 : a.tmps[3]? = some (.pointer (some ⟨(w.heap.size + 1), 0, none⟩)) := by rw [ha]; exact (putSel_off rfl).trans rfl
      replace ha := Aside0.mk ha
      have HB := Aside0.mk Q_HB
      have A1 := Aside0.mk Q_A1
      have A2 := Aside0.mk Q_A2
      have L0 := Aside0.mk Q_L0
      have L1 := Aside0.mk Q_L1
      have L2 := Aside0.mk Q_L2
      refine value_ (w1 := w') (v := .pointer (some ⟨(w.heap.size + 1), 2, none⟩)) (by rfl) rfl ?_ ?_
      · go_simp
        (try simp only [i64_w])
        try rfl
      refine hK.out _ _ ⟨g0, g1, g2, m15_, m16_, m17_, (by rw [ha.out]; exact putSel_upk 12 hb_ rfl rfl rfl), Q_HB, Q_A1, Q_A2, Q_Z0, fun _ h1_ => absurd ((hoff 18 (by kernel_rfl)).symm.trans h1_) (by decide), Q_G0, Q_L0, Q_Z1, fun _ h1_ => absurd ((hoff 19 (by kernel_rfl)).symm.trans h1_) (by decide), Q_G1, Q_L1, Q_Z2, fun _ h1_ => absurd ((hoff 20 (by kernel_rfl)).symm.trans h1_) (by decide), Q_G2, Q_L2, Q_NE01, Q_NE02, Q_NE12, Q_X15_, Q_X16_, Q_X17_⟩
    refine steps_cons ?_ ?_
    · rintro b a w' ⟨g0, g1, g2, m15_, m16_, m17_, ha, Q_HB, Q_A1, Q_A2, Q_Z0, Q_F0, Q_G0, Q_L0, Q_Z1, Q_F1, Q_G1, Q_L1, Q_Z2, Q_F2, Q_G2, Q_L2, Q_NE01, Q_NE02, Q_NE12, Q_X15_, Q_X16_, Q_X17_⟩ hb_ hon hoff
      refine ⟨_, rfl, fun K hK => ?_⟩
      have e36 : a.tmps[36]? = some (.pointer (some ⟨(w.heap.size + 1), 2, none⟩)) := by rw [ha]; exact putSel_on (e := (12, 36, .pointer (some ⟨(w.heap.size + 1), 2, none⟩))) 12 rfl rfl (hon 12 (by kernel_rfl)) rfl
      replace ha := Aside0.mk ha
      have HB := Aside0.mk Q_HB
      have A1 := Aside0.mk Q_A1
      have A2 := Aside0.mk Q_A2
      have L0 := Aside0.mk Q_L0
      have L1 := Aside0.mk Q_L1
      have L2 := Aside0.mk Q_L2
      have c0 : w'.cell? ⟨w.heap.size + 1, 2, none⟩ = some (.int .i64 d2) := A2.out.cell 2
      refine value_ (w1 := w') (v := .int .i64 d2) (by rfl) rfl ?_ ?_
      · go_simp
        (try simp only [i64_w])
        try rfl
      refine hK.out _ _ ⟨g0, g1, g2, m15_, m16_, m17_, (by rw [ha.out]; exact putSel_upk 13 hb_ rfl rfl rfl), Q_HB, Q_A1, Q_A2, Q_Z0, fun _ h1_ => absurd ((hoff 18 (by kernel_rfl)).symm.trans h1_) (by decide), Q_G0, Q_L0, Q_Z1, fun _ h1_ => absurd ((hoff 19 (by kernel_rfl)).symm.trans h1_) (by decide), Q_G1, Q_L1, Q_Z2, fun _ h1_ => absurd ((hoff 20 (by kernel_rfl)).symm.trans h1_) (by decide), Q_G2, Q_L2, Q_NE01, Q_NE02, Q_NE12, Q_X15_, Q_X16_, Q_X17_⟩
    refine steps_cons ?_ ?_
    · rintro b a w' ⟨g0, g1, g2, m15_, m16_, m17_, ha, Q_HB, Q_A1, Q_A2, Q_Z0, Q_F0, Q_G0, Q_L0, Q_Z1, Q_F1, Q_G1, Q_L1, Q_Z2, Q_F2, Q_G2, Q_L2, Q_NE01, Q_NE02, Q_NE12, Q_X15_, Q_X16_, Q_X17_⟩ hb_ hon hoff
      refine ⟨_, rfl, fun K hK => ?_⟩
      have e35 : a.tmps[35]? = some (.int .i64 n2) := by rw [ha]; exact putSel_on (e := (11, 35, .int .i64 n2)) 11 rfl rfl (hon 11 (by kernel_rfl)) rfl
      have e37 : a.tmps[37]? = some (.int .i64 d2) := by rw [ha]; exact putSel_on (e := (13, 37, .int .i64 d2)) 13 rfl rfl (hon 13 (by kernel_rfl)) rfl
      replace ha := Aside0.mk ha
      have HB := Aside0.mk Q_HB
      have A1 := Aside0.mk Q_A1
      have A2 := Aside0.mk Q_A2
      have L0 := Aside0.mk Q_L0
      have L1 := Aside0.mk Q_L1
      have L2 := Aside0.mk Q_L2
      refine goes_ Try.func23 (by kernel_rfl) rfl #[.int .i64 n2, .int .i64 d2] (by rfl) rfl rfl (by first | (simp only [List.map_toArray, List.map_cons, List.map_nil, Act.eval, Array.getD_eq_getD_getElem?, Option.getD_some, e35, e37]; done) | (simp only [List.map_toArray, List.map_cons, List.map_nil, Act.eval, Array.getD_eq_getD_getElem?, Option.getD_some, e35, e37]; rfl)) ?_
      refine (made_hid2.out w').mono ?_
      rintro e w2 ⟨rfl, hb⟩
      refine ⟨_, rfl, ?_⟩
      refine hK.out _ _ ⟨g0, g1, g2, m15_, m16_, m17_, (by rw [ha.out]; exact putSel_upk 14 hb_ rfl rfl rfl), bthen' HB.out hb, A1.out.below hb, A2.out.below hb, fun h0_ h1_ => (Q_Z0 h0_ h1_).below hb, fun _ h1_ => absurd ((hoff 18 (by kernel_rfl)).symm.trans h1_) (by decide), Q_G0, Nat.lt_of_lt_of_le L0.out hb.size, fun h0_ h1_ => (Q_Z1 h0_ h1_).below hb, fun _ h1_ => absurd ((hoff 19 (by kernel_rfl)).symm.trans h1_) (by decide), Q_G1, Nat.lt_of_lt_of_le L1.out hb.size, fun h0_ h1_ => (Q_Z2 h0_ h1_).below hb, fun _ h1_ => absurd ((hoff 20 (by kernel_rfl)).symm.trans h1_) (by decide), Q_G2, Nat.lt_of_lt_of_le L2.out hb.size, Q_NE01, Q_NE02, Q_NE12, Q_X15_, Q_X16_, Q_X17_⟩
    refine steps_cons ?_ ?_
    · rintro b a w' ⟨g0, g1, g2, m15_, m16_, m17_, ha, Q_HB, Q_A1, Q_A2, Q_Z0, Q_F0, Q_G0, Q_L0, Q_Z1, Q_F1, Q_G1, Q_L1, Q_Z2, Q_F2, Q_G2, Q_L2, Q_NE01, Q_NE02, Q_NE12, Q_X15_, Q_X16_, Q_X17_⟩ hb_ hon hoff
      refine ⟨_, rfl, fun K hK => ?_⟩
      replace ha := Aside0.mk ha
      have HB := Aside0.mk Q_HB
      have A1 := Aside0.mk Q_A1
      have A2 := Aside0.mk Q_A2
      have L0 := Aside0.mk Q_L0
      have L1 := Aside0.mk Q_L1
      have L2 := Aside0.mk Q_L2
      refine value_ (w1 := w'.alloc (.cells #[.int .i64 0, .int .i64 0] 31)) (v := .pointer (some ⟨w'.heap.size, 0, none⟩)) (by rfl) rfl ?_ ?_
      · go_simp
      refine hK.out _ _ ⟨w'.heap.size, g1, g2, (.pointer (some ⟨w'.heap.size, 0, none⟩)), m16_, m17_, (by rw [ha.out]; exact putSel_upk 15 hb_ rfl rfl rfl), balloc HB.out (.cells #[.int .i64 0, .int .i64 0] 31), A1.out.alloc (.cells #[.int .i64 0, .int .i64 0] 31), A2.out.alloc (.cells #[.int .i64 0, .int .i64 0] 31), fun _ _ => Blk.new w' #[.int .i64 0, .int .i64 0] 31 rfl, fun _ h1_ => absurd ((hoff 18 (by kernel_rfl)).symm.trans h1_) (by decide), fun _ => A2.out.lt, (by simp), fun h0_ h1_ => (Q_Z1 h0_ h1_).alloc (.cells #[.int .i64 0, .int .i64 0] 31), fun _ h1_ => absurd ((hoff 19 (by kernel_rfl)).symm.trans h1_) (by decide), Q_G1, (by have := L1.out; simp; omega), fun h0_ h1_ => (Q_Z2 h0_ h1_).alloc (.cells #[.int .i64 0, .int .i64 0] 31), fun _ h1_ => absurd ((hoff 20 (by kernel_rfl)).symm.trans h1_) (by decide), Q_G2, (by have := L2.out; simp; omega), fun _ _ => Nat.ne_of_gt L1.out, fun _ _ => Nat.ne_of_gt L2.out, Q_NE12, fun _ => rfl, Q_X16_, Q_X17_⟩
    refine steps_cons ?_ ?_
    · rintro b a w' ⟨g0, g1, g2, m15_, m16_, m17_, ha, Q_HB, Q_A1, Q_A2, Q_Z0, Q_F0, Q_G0, Q_L0, Q_Z1, Q_F1, Q_G1, Q_L1, Q_Z2, Q_F2, Q_G2, Q_L2, Q_NE01, Q_NE02, Q_NE12, Q_X15_, Q_X16_, Q_X17_⟩ hb_ hon hoff
      refine ⟨_, rfl, fun K hK => ?_⟩
      replace ha := Aside0.mk ha
      have HB := Aside0.mk Q_HB
      have A1 := Aside0.mk Q_A1
      have A2 := Aside0.mk Q_A2
      have L0 := Aside0.mk Q_L0
      have L1 := Aside0.mk Q_L1
      have L2 := Aside0.mk Q_L2
      refine value_ (w1 := w'.alloc (.cells #[.int .i64 0, .int .i64 0] 31)) (v := .pointer (some ⟨w'.heap.size, 0, none⟩)) (by rfl) rfl ?_ ?_
      · go_simp
      refine hK.out _ _ ⟨g0, w'.heap.size, g2, m15_, (.pointer (some ⟨w'.heap.size, 0, none⟩)), m17_, (by rw [ha.out]; exact putSel_upk 16 hb_ rfl rfl rfl), balloc HB.out (.cells #[.int .i64 0, .int .i64 0] 31), A1.out.alloc (.cells #[.int .i64 0, .int .i64 0] 31), A2.out.alloc (.cells #[.int .i64 0, .int .i64 0] 31), fun h0_ h1_ => (Q_Z0 h0_ h1_).alloc (.cells #[.int .i64 0, .int .i64 0] 31), fun _ h1_ => absurd ((hoff 18 (by kernel_rfl)).symm.trans h1_) (by decide), Q_G0, (by have := L0.out; simp; omega), fun _ _ => Blk.new w' #[.int .i64 0, .int .i64 0] 31 rfl, fun _ h1_ => absurd ((hoff 19 (by kernel_rfl)).symm.trans h1_) (by decide), fun _ => A2.out.lt, (by simp), fun h0_ h1_ => (Q_Z2 h0_ h1_).alloc (.cells #[.int .i64 0, .int .i64 0] 31), fun _ h1_ => absurd ((hoff 20 (by kernel_rfl)).symm.trans h1_) (by decide), Q_G2, (by have := L2.out; simp; omega), fun _ _ => Nat.ne_of_lt L0.out, Q_NE02, fun _ _ => Nat.ne_of_gt L2.out, Q_X15_, fun _ => rfl, Q_X17_⟩
    refine steps_cons ?_ ?_
    · rintro b a w' ⟨g0, g1, g2, m15_, m16_, m17_, ha, Q_HB, Q_A1, Q_A2, Q_Z0, Q_F0, Q_G0, Q_L0, Q_Z1, Q_F1, Q_G1, Q_L1, Q_Z2, Q_F2, Q_G2, Q_L2, Q_NE01, Q_NE02, Q_NE12, Q_X15_, Q_X16_, Q_X17_⟩ hb_ hon hoff
      refine ⟨_, rfl, fun K hK => ?_⟩
      replace ha := Aside0.mk ha
      have HB := Aside0.mk Q_HB
      have A1 := Aside0.mk Q_A1
      have A2 := Aside0.mk Q_A2
      have L0 := Aside0.mk Q_L0
      have L1 := Aside0.mk Q_L1
      have L2 := Aside0.mk Q_L2
      refine value_ (w1 := w'.alloc (.cells #[.int .i64 0, .int .i64 0] 31)) (v := .pointer (some ⟨w'.heap.size, 0, none⟩)) (by rfl) rfl ?_ ?_
      · go_simp
      refine hK.out _ _ ⟨g0, g1, w'.heap.size, m15_, m16_, (.pointer (some ⟨w'.heap.size, 0, none⟩)), (by rw [ha.out]; exact putSel_upk 17 hb_ rfl rfl rfl), balloc HB.out (.cells #[.int .i64 0, .int .i64 0] 31), A1.out.alloc (.cells #[.int .i64 0, .int .i64 0] 31), A2.out.alloc (.cells #[.int .i64 0, .int .i64 0] 31), fun h0_ h1_ => (Q_Z0 h0_ h1_).alloc (.cells #[.int .i64 0, .int .i64 0] 31), fun _ h1_ => absurd ((hoff 18 (by kernel_rfl)).symm.trans h1_) (by decide), Q_G0, (by have := L0.out; simp; omega), fun h0_ h1_ => (Q_Z1 h0_ h1_).alloc (.cells #[.int .i64 0, .int .i64 0] 31), fun _ h1_ => absurd ((hoff 19 (by kernel_rfl)).symm.trans h1_) (by decide), Q_G1, (by have := L1.out; simp; omega), fun _ _ => Blk.new w' #[.int .i64 0, .int .i64 0] 31 rfl, fun _ h1_ => absurd ((hoff 20 (by kernel_rfl)).symm.trans h1_) (by decide), fun _ => A2.out.lt, (by simp), Q_NE01, fun _ _ => Nat.ne_of_lt L0.out, fun _ _ => Nat.ne_of_lt L1.out, Q_X15_, Q_X16_, fun _ => rfl⟩
    refine steps_cons ?_ ?_
    · rintro b a w' ⟨g0, g1, g2, m15_, m16_, m17_, ha, Q_HB, Q_A1, Q_A2, Q_Z0, Q_F0, Q_G0, Q_L0, Q_Z1, Q_F1, Q_G1, Q_L1, Q_Z2, Q_F2, Q_G2, Q_L2, Q_NE01, Q_NE02, Q_NE12, Q_X15_, Q_X16_, Q_X17_⟩ hb_ hon hoff
      refine ⟨_, rfl, fun K hK => ?_⟩
      have e6 : a.tmps[6]? = some (m15_) := by rw [ha]; exact putSel_on (e := (15, 6, m15_)) 15 rfl rfl (hon 15 (by kernel_rfl)) rfl
      rw [Q_X15_ (hon 15 (by kernel_rfl))] at e6
      have e28 : a.tmps[28]? = some (.agg #[.int .i64 an, .int .i64 ad]) := by rw [ha]; exact putSel_on (e := (4, 28, .agg #[.int .i64 an, .int .i64 ad])) 4 rfl rfl (hon 4 (by kernel_rfl)) rfl
      replace ha := Aside0.mk ha
      have HB := Aside0.mk Q_HB
      have A1 := Aside0.mk Q_A1
      have A2 := Aside0.mk Q_A2
      have Z0 := Aside0.mk (Q_Z0 (hon 15 (by kernel_rfl)) hb_)
      have G0 := Aside0.mk (Q_G0 (hon 15 (by kernel_rfl)))
      have L0 := Aside0.mk Q_L0
      have Z1 := Aside0.mk (Q_Z1 (hon 16 (by kernel_rfl)) (hoff 19 (by kernel_rfl)))
      have G1 := Aside0.mk (Q_G1 (hon 16 (by kernel_rfl)))
      have L1 := Aside0.mk Q_L1
      have Z2 := Aside0.mk (Q_Z2 (hon 17 (by kernel_rfl)) (hoff 20 (by kernel_rfl)))
      have G2 := Aside0.mk (Q_G2 (hon 17 (by kernel_rfl)))
      have L2 := Aside0.mk Q_L2
      have NE01 := Aside0.mk (Q_NE01 (hon 15 (by kernel_rfl)) (hon 16 (by kernel_rfl)))
      have NE02 := Aside0.mk (Q_NE02 (hon 15 (by kernel_rfl)) (hon 17 (by kernel_rfl)))
      have NE12 := Aside0.mk (Q_NE12 (hon 16 (by kernel_rfl)) (hon 17 (by kernel_rfl)))
      have c0 : w'.cell? ⟨g0, 0, none⟩ = some (.int .i64 0) := Z0.out.cell 0
      have c1 : w'.cell? ⟨g0, 1, none⟩ = some (.int .i64 0) := Z0.out.cell 1
      have f0 : w'.frozen? ⟨g0, 0, none⟩ = false := Z0.out.frozen 0
      have f1 : w'.frozen? ⟨g0, 1, none⟩ = false := Z0.out.frozen 1
      refine skip_ (w1 := ((w'.setCell ⟨g0, 0, none⟩ (.int .i64 an)).setCell ⟨g0, 1, none⟩ (.int .i64 ad))) (by rfl) rfl ?_ ?_
      · go_simp
      refine hK.out _ _ ⟨g0, g1, g2, m15_, m16_, m17_, (by rw [ha.out]; exact putSel_none (v := undef) rfl), bset (bset HB.out (by have := G0.out; omega) 0 _) (by have := G0.out; omega) 1 _, (A1.out.far (by have := G0.out; omega) 0 _).far (by have := G0.out; omega) 1 _, (A2.out.far (by have := G0.out; omega) 0 _).far (by have := G0.out; omega) 1 _, fun _ h1_ => absurd ((up_self b 18).symm.trans h1_) (by decide), fun _ _ => (Z0.out.put 0 _ rfl).put 1 _ rfl, Q_G0, (by have := L0.out; simpa using this), fun _ _ => (by have hne := Q_NE01 (hon 15 (by kernel_rfl)) (hon 16 (by kernel_rfl)); exact (Z1.out.far (Ne.symm hne) 0 _).far (Ne.symm hne) 1 _), fun _ h1_ => absurd ((hoff 19 (by kernel_rfl)).symm.trans h1_) (by decide), Q_G1, (by have := L1.out; simpa using this), fun _ _ => (by have hne := Q_NE02 (hon 15 (by kernel_rfl)) (hon 17 (by kernel_rfl)); exact (Z2.out.far (Ne.symm hne) 0 _).far (Ne.symm hne) 1 _), fun _ h1_ => absurd ((hoff 20 (by kernel_rfl)).symm.trans h1_) (by decide), Q_G2, (by have := L2.out; simpa using this), Q_NE01, Q_NE02, Q_NE12, Q_X15_, Q_X16_, Q_X17_⟩
    refine steps_cons ?_ ?_
    · rintro b a w' ⟨g0, g1, g2, m15_, m16_, m17_, ha, Q_HB, Q_A1, Q_A2, Q_Z0, Q_F0, Q_G0, Q_L0, Q_Z1, Q_F1, Q_G1, Q_L1, Q_Z2, Q_F2, Q_G2, Q_L2, Q_NE01, Q_NE02, Q_NE12, Q_X15_, Q_X16_, Q_X17_⟩ hb_ hon hoff
      refine ⟨_, rfl, fun K hK => ?_⟩
      have e7 : a.tmps[7]? = some (m16_) := by rw [ha]; exact putSel_on (e := (16, 7, m16_)) 16 rfl rfl (hon 16 (by kernel_rfl)) rfl
      rw [Q_X16_ (hon 16 (by kernel_rfl))] at e7
      have e33 : a.tmps[33]? = some (.agg #[.int .i64 bn, .int .i64 bd]) := by rw [ha]; exact putSel_on (e := (9, 33, .agg #[.int .i64 bn, .int .i64 bd])) 9 rfl rfl (hon 9 (by kernel_rfl)) rfl
      replace ha := Aside0.mk ha
      have HB := Aside0.mk Q_HB
      have A1 := Aside0.mk Q_A1
      have A2 := Aside0.mk Q_A2
      have F0 := Aside0.mk (Q_F0 (hon 15 (by kernel_rfl)) (hon 18 (by kernel_rfl)))
      have G0 := Aside0.mk (Q_G0 (hon 15 (by kernel_rfl)))
      have L0 := Aside0.mk Q_L0
      have Z1 := Aside0.mk (Q_Z1 (hon 16 (by kernel_rfl)) hb_)
      have G1 := Aside0.mk (Q_G1 (hon 16 (by kernel_rfl)))
      have L1 := Aside0.mk Q_L1
      have Z2 := Aside0.mk (Q_Z2 (hon 17 (by kernel_rfl)) (hoff 20 (by kernel_rfl)))
      have G2 := Aside0.mk (Q_G2 (hon 17 (by kernel_rfl)))
      have L2 := Aside0.mk Q_L2
      have NE01 := Aside0.mk (Q_NE01 (hon 15 (by kernel_rfl)) (hon 16 (by kernel_rfl)))
      have NE02 := Aside0.mk (Q_NE02 (hon 15 (by kernel_rfl)) (hon 17 (by kernel_rfl)))
      have NE12 := Aside0.mk (Q_NE12 (hon 16 (by kernel_rfl)) (hon 17 (by kernel_rfl)))
      have c0 : w'.cell? ⟨g1, 0, none⟩ = some (.int .i64 0) := Z1.out.cell 0
      have c1 : w'.cell? ⟨g1, 1, none⟩ = some (.int .i64 0) := Z1.out.cell 1
      have f0 : w'.frozen? ⟨g1, 0, none⟩ = false := Z1.out.frozen 0
      have f1 : w'.frozen? ⟨g1, 1, none⟩ = false := Z1.out.frozen 1
      refine skip_ (w1 := ((w'.setCell ⟨g1, 0, none⟩ (.int .i64 bn)).setCell ⟨g1, 1, none⟩ (.int .i64 bd))) (by rfl) rfl ?_ ?_
      · go_simp
      refine hK.out _ _ ⟨g0, g1, g2, m15_, m16_, m17_, (by rw [ha.out]; exact putSel_none (v := undef) rfl), bset (bset HB.out (by have := G1.out; omega) 0 _) (by have := G1.out; omega) 1 _, (A1.out.far (by have := G1.out; omega) 0 _).far (by have := G1.out; omega) 1 _, (A2.out.far (by have := G1.out; omega) 0 _).far (by have := G1.out; omega) 1 _, fun _ h1_ => absurd ((hon 18 (by kernel_rfl)).symm.trans h1_) (by decide), fun _ _ => (by have hne := Q_NE01 (hon 15 (by kernel_rfl)) (hon 16 (by kernel_rfl)); exact (F0.out.far hne 0 _).far hne 1 _), Q_G0, (by have := L0.out; simpa using this), fun _ h1_ => absurd ((up_self b 19).symm.trans h1_) (by decide), fun _ _ => (Z1.out.put 0 _ rfl).put 1 _ rfl, Q_G1, (by have := L1.out; simpa using this), fun _ _ => (by have hne := Q_NE12 (hon 16 (by kernel_rfl)) (hon 17 (by kernel_rfl)); exact (Z2.out.far (Ne.symm hne) 0 _).far (Ne.symm hne) 1 _), fun _ h1_ => absurd ((hoff 20 (by kernel_rfl)).symm.trans h1_) (by decide), Q_G2, (by have := L2.out; simpa using this), Q_NE01, Q_NE02, Q_NE12, Q_X15_, Q_X16_, Q_X17_⟩
    refine steps_cons ?_ ?_
    · rintro b a w' ⟨g0, g1, g2, m15_, m16_, m17_, ha, Q_HB, Q_A1, Q_A2, Q_Z0, Q_F0, Q_G0, Q_L0, Q_Z1, Q_F1, Q_G1, Q_L1, Q_Z2, Q_F2, Q_G2, Q_L2, Q_NE01, Q_NE02, Q_NE12, Q_X15_, Q_X16_, Q_X17_⟩ hb_ hon hoff
      refine ⟨_, rfl, fun K hK => ?_⟩
      have e8 : a.tmps[8]? = some (m17_) := by rw [ha]; exact putSel_on (e := (17, 8, m17_)) 17 rfl rfl (hon 17 (by kernel_rfl)) rfl
      rw [Q_X17_ (hon 17 (by kernel_rfl))] at e8
      have e38 : a.tmps[38]? = some (.agg #[.int .i64 cn, .int .i64 cd]) := by rw [ha]; exact putSel_on (e := (14, 38, .agg #[.int .i64 cn, .int .i64 cd])) 14 rfl rfl (hon 14 (by kernel_rfl)) rfl
      replace ha := Aside0.mk ha
      have HB := Aside0.mk Q_HB
      have A1 := Aside0.mk Q_A1
      have A2 := Aside0.mk Q_A2
      have F0 := Aside0.mk (Q_F0 (hon 15 (by kernel_rfl)) (hon 18 (by kernel_rfl)))
      have G0 := Aside0.mk (Q_G0 (hon 15 (by kernel_rfl)))
      have L0 := Aside0.mk Q_L0
      have F1 := Aside0.mk (Q_F1 (hon 16 (by kernel_rfl)) (hon 19 (by kernel_rfl)))
      have G1 := Aside0.mk (Q_G1 (hon 16 (by kernel_rfl)))
      have L1 := Aside0.mk Q_L1
      have Z2 := Aside0.mk (Q_Z2 (hon 17 (by kernel_rfl)) hb_)
      have G2 := Aside0.mk (Q_G2 (hon 17 (by kernel_rfl)))
      have L2 := Aside0.mk Q_L2
      have NE01 := Aside0.mk (Q_NE01 (hon 15 (by kernel_rfl)) (hon 16 (by kernel_rfl)))
      have NE02 := Aside0.mk (Q_NE02 (hon 15 (by kernel_rfl)) (hon 17 (by kernel_rfl)))
      have NE12 := Aside0.mk (Q_NE12 (hon 16 (by kernel_rfl)) (hon 17 (by kernel_rfl)))
      have c0 : w'.cell? ⟨g2, 0, none⟩ = some (.int .i64 0) := Z2.out.cell 0
      have c1 : w'.cell? ⟨g2, 1, none⟩ = some (.int .i64 0) := Z2.out.cell 1
      have f0 : w'.frozen? ⟨g2, 0, none⟩ = false := Z2.out.frozen 0
      have f1 : w'.frozen? ⟨g2, 1, none⟩ = false := Z2.out.frozen 1
      refine skip_ (w1 := ((w'.setCell ⟨g2, 0, none⟩ (.int .i64 cn)).setCell ⟨g2, 1, none⟩ (.int .i64 cd))) (by rfl) rfl ?_ ?_
      · go_simp
      refine hK.out _ _ ⟨g0, g1, g2, m15_, m16_, m17_, (by rw [ha.out]; exact putSel_none (v := undef) rfl), bset (bset HB.out (by have := G2.out; omega) 0 _) (by have := G2.out; omega) 1 _, (A1.out.far (by have := G2.out; omega) 0 _).far (by have := G2.out; omega) 1 _, (A2.out.far (by have := G2.out; omega) 0 _).far (by have := G2.out; omega) 1 _, fun _ h1_ => absurd ((hon 18 (by kernel_rfl)).symm.trans h1_) (by decide), fun _ _ => (by have hne := Q_NE02 (hon 15 (by kernel_rfl)) (hon 17 (by kernel_rfl)); exact (F0.out.far hne 0 _).far hne 1 _), Q_G0, (by have := L0.out; simpa using this), fun _ h1_ => absurd ((hon 19 (by kernel_rfl)).symm.trans h1_) (by decide), fun _ _ => (by have hne := Q_NE12 (hon 16 (by kernel_rfl)) (hon 17 (by kernel_rfl)); exact (F1.out.far hne 0 _).far hne 1 _), Q_G1, (by have := L1.out; simpa using this), fun _ h1_ => absurd ((up_self b 20).symm.trans h1_) (by decide), fun _ _ => (Z2.out.put 0 _ rfl).put 1 _ rfl, Q_G2, (by have := L2.out; simpa using this), Q_NE01, Q_NE02, Q_NE12, Q_X15_, Q_X16_, Q_X17_⟩
    exact steps_nil
  · rintro b a w' hall ⟨g0, g1, g2, m15_, m16_, m17_, ha, Q_HB, Q_A1, Q_A2, Q_Z0, Q_F0, Q_G0, Q_L0, Q_Z1, Q_F1, Q_G1, Q_L1, Q_Z2, Q_F2, Q_G2, Q_L2, Q_NE01, Q_NE02, Q_NE12, Q_X15_, Q_X16_, Q_X17_⟩
    clear A1 A2 HB L0 L1 L2
    have hb0_ := hall 0 (by kernel_rfl)
    have hb1_ := hall 1 (by kernel_rfl)
    have hb2_ := hall 2 (by kernel_rfl)
    have hb3_ := hall 3 (by kernel_rfl)
    have hb4_ := hall 4 (by kernel_rfl)
    have hb5_ := hall 5 (by kernel_rfl)
    have hb6_ := hall 6 (by kernel_rfl)
    have hb7_ := hall 7 (by kernel_rfl)
    have hb8_ := hall 8 (by kernel_rfl)
    have hb9_ := hall 9 (by kernel_rfl)
    have hb10_ := hall 10 (by kernel_rfl)
    have hb11_ := hall 11 (by kernel_rfl)
    have hb12_ := hall 12 (by kernel_rfl)
    have hb13_ := hall 13 (by kernel_rfl)
    have hb14_ := hall 14 (by kernel_rfl)
    have hb15_ := hall 15 (by kernel_rfl)
    have hb16_ := hall 16 (by kernel_rfl)
    have hb17_ := hall 17 (by kernel_rfl)
    have hb18_ := hall 18 (by kernel_rfl)
    have hb19_ := hall 19 (by kernel_rfl)
    have hb20_ := hall 20 (by kernel_rfl)
    subst ha
    obtain rfl := Q_X15_ hb15_
    obtain rfl := Q_X16_ hb16_
    obtain rfl := Q_X17_ hb17_
    simp only [putSel, hb0_, hb1_, hb2_, hb3_, hb4_, hb5_, hb6_, hb7_, hb8_, hb9_, hb10_, hb11_, hb12_, hb13_, hb14_, hb15_, hb16_, hb17_, hb18_, hb19_, hb20_, if_true, Act.put, List.setIfInBounds_toArray, List.set_cons_zero, List.set_cons_succ]
    have HB := Aside0.mk Q_HB
    clear Q_HB
    have A1 := Aside0.mk Q_A1
    clear Q_A1
    have A2 := Aside0.mk Q_A2
    clear Q_A2
    clear Q_Z0
    have F0 := Aside0.mk (Q_F0 hb15_ hb18_)
    clear Q_F0
    have G0 := Aside0.mk (Q_G0 hb15_)
    clear Q_G0
    have L0 := Aside0.mk Q_L0
    clear Q_L0
    clear Q_Z1
    have F1 := Aside0.mk (Q_F1 hb16_ hb19_)
    clear Q_F1
    have G1 := Aside0.mk (Q_G1 hb16_)
    clear Q_G1
    have L1 := Aside0.mk Q_L1
    clear Q_L1
    clear Q_Z2
    have F2 := Aside0.mk (Q_F2 hb17_ hb20_)
    clear Q_F2
    have G2 := Aside0.mk (Q_G2 hb17_)
    clear Q_G2
    have L2 := Aside0.mk Q_L2
    clear Q_L2
    have NE01 := Aside0.mk (Q_NE01 hb15_ hb16_)
    clear Q_NE01
    have NE02 := Aside0.mk (Q_NE02 hb15_ hb17_)
    clear Q_NE02
    have NE12 := Aside0.mk (Q_NE12 hb16_ hb17_)
    clear Q_NE12
    clear hall hb0_ hb1_ hb2_ hb3_ hb4_ hb5_ hb6_ hb7_ hb8_ hb9_ hb10_ hb11_ hb12_ hb13_ hb14_ hb15_ hb16_ hb17_ hb18_ hb19_ hb20_
    have HB := HB.out
    have K0 := F0.out
    have K1 := F1.out
    have K2 := F2.out
    clear A1 A2 F0 F1 F2 G0 G1 G2 L0 L1 L2 NE01 NE02 NE12
    have K0c0 : w'.cell? ⟨g0, 0, none⟩ = some (.int .i64 an) := K0.cell 0
    have K0c1 : w'.cell? ⟨g0, 1, none⟩ = some (.int .i64 ad) := K0.cell 1
    have K0l : g0 < w'.heap.size := K0.lt
    have K1c0 : w'.cell? ⟨g1, 0, none⟩ = some (.int .i64 bn) := K1.cell 0
    have K1c1 : w'.cell? ⟨g1, 1, none⟩ = some (.int .i64 bd) := K1.cell 1
    have K1l : g1 < w'.heap.size := K1.lt
    go_wp2_with fail
    clear K0c0 K0c1 K0l K1c0 K1c1 K1l
    refine (HC_ab.out _).mono ?_
    rintro e y0 ⟨rfl, hb⟩
    replace HB := bthen' HB hb
    replace K0 := K0.below hb
    replace K1 := K1.below hb
    replace K2 := K2.below hb
    clear hb
    have K0c0 : y0.cell? ⟨g0, 0, none⟩ = some (.int .i64 an) := K0.cell 0
    have K0c1 : y0.cell? ⟨g0, 1, none⟩ = some (.int .i64 ad) := K0.cell 1
    have K0l : g0 < y0.heap.size := K0.lt
    have K1c0 : y0.cell? ⟨g1, 0, none⟩ = some (.int .i64 bn) := K1.cell 0
    have K1c1 : y0.cell? ⟨g1, 1, none⟩ = some (.int .i64 bd) := K1.cell 1
    have K1l : g1 < y0.heap.size := K1.lt
    go_wp2_with fail
    clear K0c0 K0c1 K0l K1c0 K1c1 K1l
    have K3 : Blk (y0.alloc (.cells #[.int .i64 un, .int .i64 ud] 31)) y0.heap.size #[.int .i64 un, .int .i64 ud] 31 := Blk.new y0 _ _ rfl
    replace HB := balloc HB (.cells #[.int .i64 un, .int .i64 ud] 31)
    replace K0 := K0.alloc (.cells #[.int .i64 un, .int .i64 ud] 31)
    replace K1 := K1.alloc (.cells #[.int .i64 un, .int .i64 ud] 31)
    replace K2 := K2.alloc (.cells #[.int .i64 un, .int .i64 ud] 31)
    generalize y0.heap.size = g3 at *
    generalize y0.alloc _ = z1 at *
    refine (HC_ba.out _).mono ?_
    rintro e y1 ⟨rfl, hb⟩
    replace HB := bthen' HB hb
    replace K0 := K0.below hb
    replace K1 := K1.below hb
    replace K2 := K2.below hb
    replace K3 := K3.below hb
    clear hb
    have K1c0 : y1.cell? ⟨g1, 0, none⟩ = some (.int .i64 bn) := K1.cell 0
    have K1c1 : y1.cell? ⟨g1, 1, none⟩ = some (.int .i64 bd) := K1.cell 1
    have K1l : g1 < y1.heap.size := K1.lt
    have K2c0 : y1.cell? ⟨g2, 0, none⟩ = some (.int .i64 cn) := K2.cell 0
    have K2c1 : y1.cell? ⟨g2, 1, none⟩ = some (.int .i64 cd) := K2.cell 1
    have K2l : g2 < y1.heap.size := K2.lt
    go_wp2_with fail
    clear K1c0 K1c1 K1l K2c0 K2c1 K2l
    have K4 : Blk (y1.alloc (.cells #[.int .i64 un, .int .i64 ud] 31)) y1.heap.size #[.int .i64 un, .int .i64 ud] 31 := Blk.new y1 _ _ rfl
    replace HB := balloc HB (.cells #[.int .i64 un, .int .i64 ud] 31)
    replace K0 := K0.alloc (.cells #[.int .i64 un, .int .i64 ud] 31)
    replace K1 := K1.alloc (.cells #[.int .i64 un, .int .i64 ud] 31)
    replace K2 := K2.alloc (.cells #[.int .i64 un, .int .i64 ud] 31)
    replace K3 := K3.alloc (.cells #[.int .i64 un, .int .i64 ud] 31)
    generalize y1.heap.size = g4 at *
    generalize y1.alloc _ = z2 at *
    refine (HC_bc.out _).mono ?_
    rintro e y2 ⟨rfl, hb⟩
    replace HB := bthen' HB hb
    replace K0 := K0.below hb
    replace K1 := K1.below hb
    replace K2 := K2.below hb
    replace K3 := K3.below hb
    replace K4 := K4.below hb
    clear hb
    have K2c0 : y2.cell? ⟨g2, 0, none⟩ = some (.int .i64 cn) := K2.cell 0
    have K2c1 : y2.cell? ⟨g2, 1, none⟩ = some (.int .i64 cd) := K2.cell 1
    have K2l : g2 < y2.heap.size := K2.lt
    have K3c0 : y2.cell? ⟨g3, 0, none⟩ = some (.int .i64 un) := K3.cell 0
    have K3c1 : y2.cell? ⟨g3, 1, none⟩ = some (.int .i64 ud) := K3.cell 1
    have K3l : g3 < y2.heap.size := K3.lt
    go_wp2_with fail
    clear K3c0 K3c1 K3l K2c0 K2c1 K2l
    have K5 : Blk (y2.alloc (.cells #[.int .i64 vn, .int .i64 vd] 31)) y2.heap.size #[.int .i64 vn, .int .i64 vd] 31 := Blk.new y2 _ _ rfl
    replace HB := balloc HB (.cells #[.int .i64 vn, .int .i64 vd] 31)
    replace K0 := K0.alloc (.cells #[.int .i64 vn, .int .i64 vd] 31)
    replace K1 := K1.alloc (.cells #[.int .i64 vn, .int .i64 vd] 31)
    replace K2 := K2.alloc (.cells #[.int .i64 vn, .int .i64 vd] 31)
    replace K3 := K3.alloc (.cells #[.int .i64 vn, .int .i64 vd] 31)
    replace K4 := K4.alloc (.cells #[.int .i64 vn, .int .i64 vd] 31)
    generalize y2.heap.size = g5 at *
    generalize y2.alloc _ = z3 at *
    refine (HC_x.out _).mono ?_
    rintro e y3 ⟨rfl, hb⟩
    replace HB := bthen' HB hb
    replace K0 := K0.below hb
    replace K1 := K1.below hb
    replace K2 := K2.below hb
    replace K3 := K3.below hb
    replace K4 := K4.below hb
    replace K5 := K5.below hb
    clear hb
    have K0c0 : y3.cell? ⟨g0, 0, none⟩ = some (.int .i64 an) := K0.cell 0
    have K0c1 : y3.cell? ⟨g0, 1, none⟩ = some (.int .i64 ad) := K0.cell 1
    have K0l : g0 < y3.heap.size := K0.lt
    have K5c0 : y3.cell? ⟨g5, 0, none⟩ = some (.int .i64 vn) := K5.cell 0
    have K5c1 : y3.cell? ⟨g5, 1, none⟩ = some (.int .i64 vd) := K5.cell 1
    have K5l : g5 < y3.heap.size := K5.lt
    go_wp2_with fail
    clear K0c0 K0c1 K0l K5c0 K5c1 K5l
    have K6 : Blk (y3.alloc (.cells #[.int .i64 xn, .int .i64 xd] 31)) y3.heap.size #[.int .i64 xn, .int .i64 xd] 31 := Blk.new y3 _ _ rfl
    replace HB := balloc HB (.cells #[.int .i64 xn, .int .i64 xd] 31)
    replace K0 := K0.alloc (.cells #[.int .i64 xn, .int .i64 xd] 31)
    replace K1 := K1.alloc (.cells #[.int .i64 xn, .int .i64 xd] 31)
    replace K2 := K2.alloc (.cells #[.int .i64 xn, .int .i64 xd] 31)
    replace K3 := K3.alloc (.cells #[.int .i64 xn, .int .i64 xd] 31)
    replace K4 := K4.alloc (.cells #[.int .i64 xn, .int .i64 xd] 31)
    replace K5 := K5.alloc (.cells #[.int .i64 xn, .int .i64 xd] 31)
    generalize y3.heap.size = g6 at *
    generalize y3.alloc _ = z4 at *
    refine (HC_y.out _).mono ?_
    rintro e y4 ⟨rfl, hb⟩
    replace HB := bthen' HB hb
    replace K0 := K0.below hb
    replace K1 := K1.below hb
    replace K2 := K2.below hb
    replace K3 := K3.below hb
    replace K4 := K4.below hb
    replace K5 := K5.below hb
    replace K6 := K6.below hb
    clear hb
    have K0c0 : y4.cell? ⟨g0, 0, none⟩ = some (.int .i64 an) := K0.cell 0
    have K0c1 : y4.cell? ⟨g0, 1, none⟩ = some (.int .i64 ad) := K0.cell 1
    have K0l : g0 < y4.heap.size := K0.lt
    go_wp2_with fail
    clear K0c0 K0c1 K0l
    have K7 : Blk (y4.alloc (.cells #[.int .i64 xn, .int .i64 xd] 31)) y4.heap.size #[.int .i64 xn, .int .i64 xd] 31 := Blk.new y4 _ _ rfl
    replace HB := balloc HB (.cells #[.int .i64 xn, .int .i64 xd] 31)
    replace K0 := K0.alloc (.cells #[.int .i64 xn, .int .i64 xd] 31)
    replace K1 := K1.alloc (.cells #[.int .i64 xn, .int .i64 xd] 31)
    replace K2 := K2.alloc (.cells #[.int .i64 xn, .int .i64 xd] 31)
    replace K3 := K3.alloc (.cells #[.int .i64 xn, .int .i64 xd] 31)
    replace K4 := K4.alloc (.cells #[.int .i64 xn, .int .i64 xd] 31)
    replace K5 := K5.alloc (.cells #[.int .i64 xn, .int .i64 xd] 31)
    replace K6 := K6.alloc (.cells #[.int .i64 xn, .int .i64 xd] 31)
    generalize y4.heap.size = g7 at *
    generalize y4.alloc _ = z5 at *
    refine (HC_one.out _).mono ?_
    rintro e y5 ⟨rfl, hb⟩
    replace HB := bthen' HB hb
    replace K0 := K0.below hb
    replace K1 := K1.below hb
    replace K2 := K2.below hb
    replace K3 := K3.below hb
    replace K4 := K4.below hb
    replace K5 := K5.below hb
    replace K6 := K6.below hb
    replace K7 := K7.below hb
    clear hb
    have K0c0 : y5.cell? ⟨g0, 0, none⟩ = some (.int .i64 an) := K0.cell 0
    have K0c1 : y5.cell? ⟨g0, 1, none⟩ = some (.int .i64 ad) := K0.cell 1
    have K0l : g0 < y5.heap.size := K0.lt
    go_wp2_with fail
    clear K0c0 K0c1 K0l
    have K8 : Blk (y5.alloc (.cells #[.int .i64 an, .int .i64 ad] 31)) y5.heap.size #[.int .i64 an, .int .i64 ad] 31 := Blk.new y5 _ _ rfl
    replace HB := balloc HB (.cells #[.int .i64 an, .int .i64 ad] 31)
    replace K0 := K0.alloc (.cells #[.int .i64 an, .int .i64 ad] 31)
    replace K1 := K1.alloc (.cells #[.int .i64 an, .int .i64 ad] 31)
    replace K2 := K2.alloc (.cells #[.int .i64 an, .int .i64 ad] 31)
    replace K3 := K3.alloc (.cells #[.int .i64 an, .int .i64 ad] 31)
    replace K4 := K4.alloc (.cells #[.int .i64 an, .int .i64 ad] 31)
    replace K5 := K5.alloc (.cells #[.int .i64 an, .int .i64 ad] 31)
    replace K6 := K6.alloc (.cells #[.int .i64 an, .int .i64 ad] 31)
    replace K7 := K7.alloc (.cells #[.int .i64 an, .int .i64 ad] 31)
    generalize y5.heap.size = g8 at *
    generalize y5.alloc _ = z6 at *
    refine (HC_zero.out _).mono ?_
    rintro e y6 ⟨rfl, hb⟩
    replace HB := bthen' HB hb
    replace K0 := K0.below hb
    replace K1 := K1.below hb
    replace K2 := K2.below hb
    replace K3 := K3.below hb
    replace K4 := K4.below hb
    replace K5 := K5.below hb
    replace K6 := K6.below hb
    replace K7 := K7.below hb
    replace K8 := K8.below hb
    clear hb
    have K0c0 : y6.cell? ⟨g0, 0, none⟩ = some (.int .i64 an) := K0.cell 0
    have K0c1 : y6.cell? ⟨g0, 1, none⟩ = some (.int .i64 ad) := K0.cell 1
    have K0l : g0 < y6.heap.size := K0.lt
    have K1c0 : y6.cell? ⟨g1, 0, none⟩ = some (.int .i64 bn) := K1.cell 0
    have K1c1 : y6.cell? ⟨g1, 1, none⟩ = some (.int .i64 bd) := K1.cell 1
    have K1l : g1 < y6.heap.size := K1.lt
    have K2c0 : y6.cell? ⟨g2, 0, none⟩ = some (.int .i64 cn) := K2.cell 0
    have K2c1 : y6.cell? ⟨g2, 1, none⟩ = some (.int .i64 cd) := K2.cell 1
    have K2l : g2 < y6.heap.size := K2.lt
    have K3c0 : y6.cell? ⟨g3, 0, none⟩ = some (.int .i64 un) := K3.cell 0
    have K3c1 : y6.cell? ⟨g3, 1, none⟩ = some (.int .i64 ud) := K3.cell 1
    have K3l : g3 < y6.heap.size := K3.lt
    have K4c0 : y6.cell? ⟨g4, 0, none⟩ = some (.int .i64 un) := K4.cell 0
    have K4c1 : y6.cell? ⟨g4, 1, none⟩ = some (.int .i64 ud) := K4.cell 1
    have K4l : g4 < y6.heap.size := K4.lt
    have K5c0 : y6.cell? ⟨g5, 0, none⟩ = some (.int .i64 vn) := K5.cell 0
    have K5c1 : y6.cell? ⟨g5, 1, none⟩ = some (.int .i64 vd) := K5.cell 1
    have K5l : g5 < y6.heap.size := K5.lt
    have K6c0 : y6.cell? ⟨g6, 0, none⟩ = some (.int .i64 xn) := K6.cell 0
    have K6c1 : y6.cell? ⟨g6, 1, none⟩ = some (.int .i64 xd) := K6.cell 1
    have K6l : g6 < y6.heap.size := K6.lt
    have K7c0 : y6.cell? ⟨g7, 0, none⟩ = some (.int .i64 xn) := K7.cell 0
    have K7c1 : y6.cell? ⟨g7, 1, none⟩ = some (.int .i64 xd) := K7.cell 1
    have K7l : g7 < y6.heap.size := K7.lt
    have K8c0 : y6.cell? ⟨g8, 0, none⟩ = some (.int .i64 an) := K8.cell 0
    have K8c1 : y6.cell? ⟨g8, 1, none⟩ = some (.int .i64 ad) := K8.cell 1
    have K8l : g8 < y6.heap.size := K8.lt
    have t1 : (un == un) = true := by simp
    have t2 : (ud == ud) = true := by simp
    have t3 : (xn == xn) = true := by simp
    have t4 : (xd == xd) = true := by simp
    have t5 : (an == an) = true := by simp
    have t6 : (ad == ad) = true := by simp
    have m1 := mul_bounds' (a := un) (b := ad) (A := 4096) (B := 262144) (by omega) (by omega)
    have m2 := mul_bounds' (a := ud) (b := an) (A := 4096) (B := 262144) (by omega) (by omega)
    have m3 := mul_bounds' (a := un * ad) (b := bd) (A := 1073741824) (B := 262144) (by omega) (by omega)
    have m4 := mul_bounds' (a := ud * an) (b := bn) (A := 1073741824) (B := 262144) (by omega) (by omega)
    have t7 : (un * ad * bd == ud * an * bn) = true := beq_iff_eq.2 HE3.out
    replace HB := balloc HB (.cells #[.int .i64 0, .int .i64 1] 31)
    go_wp2
    go_ret
    exact ⟨rfl, HB⟩

end Go.Proofs.Ytkdcbinaglidoaa
