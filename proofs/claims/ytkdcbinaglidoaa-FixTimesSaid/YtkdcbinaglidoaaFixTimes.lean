/- The walk of FixTimes. -/
import Derived.Test.YtkdcbinaglidoaaFixRounds
import Derived.Test.YtkdcbinaglidoaaWInvWords
set_option linter.unusedVariables false
set_option linter.unusedSimpArgs false
namespace Go.Proofs.Ytkdcbinaglidoaa
open Go.RowKit Go.Proofs.YtkdcbinaglidoaaW.PrintWords Go.Proofs.YtkdcbinaglidoaaW.PrintLast

def fixTimes.T2 : Bool × List (List Nat × List Nat) := (true, [([], []), ([0], [0]), ([], []), ([2], [2]), ([1, 3], [1, 3]), ([], []), ([5], [5]), ([], []), ([7], [7]), ([6, 8, 4], [6, 8]), ([], []), ([], []), ([10, 4, 9, 0, 1, 2, 3, 4, 10, 11], [4, 10]), ([11, 9, 12, 0, 1, 2, 3, 4, 5, 6, 7, 8, 9, 10, 11, 12], [9, 11])])
def fixTimes.B2 : List Nat := [0, 1, 0, 4, 15, 0, 32, 0, 128, 511, 0, 0, 4095, 8191]
theorem fixTimes.tab2 : rtab .any (opsOf Try.f6 2) = fixTimes.T2 := by kernel_rfl
theorem fixTimes.bits2 : waitsOk fixTimes.T2.2 fixTimes.B2 = true := by kernel_rfl

set_option maxRecDepth 100000 in
set_option maxHeartbeats 4000000 in
theorem fixTimes_walk (an ad bn bd : Int) (w : World) (wan : (Lit.int .i64 an).wf = true) (wad : (Lit.int .i64 ad).wf = true) (wbn : (Lit.int .i64 bn).wf = true) (wbd : (Lit.int .i64 bd).wf = true) :
    Calls Try.prog 6 #[.agg #[.int .i64 an, .int .i64 ad], .agg #[.int .i64 bn, .int .i64 bd]] w fun e w' => e = .returned (.bool true) ∧ Below w.heap.size w w' := by
  clear wan wad wbn wbd
  have A1 : Blk ((w.alloc (.cells #[.int .i64 an, .int .i64 ad] 31)).alloc (.cells #[.int .i64 bn, .int .i64 bd] 31)) w.heap.size #[.int .i64 an, .int .i64 ad] 31 := (Blk.new w _ _ rfl).alloc _
  have A2 : Blk ((w.alloc (.cells #[.int .i64 an, .int .i64 ad] 31)).alloc (.cells #[.int .i64 bn, .int .i64 bd] 31)) (w.heap.size + 1) #[.int .i64 bn, .int .i64 bd] 31 := Blk.new _ _ _ (by simp)
  have HB := balloc (balloc (Below.refl w.heap.size w) (.cells #[.int .i64 an, .int .i64 ad] 31)) (.cells #[.int .i64 bn, .int .i64 bd] 31)
  have made_hidC := Lib.hid (fun w => rmade_any an ad w)
  have made_hidD := Lib.hid (fun w => rmade_any bn bd w)
  generalize madeN an ad = cn at *
  generalize madeD an ad = cd at *
  generalize madeN bn bd = dn at *
  generalize madeD bn bd = dd at *
  go_enter Try.func6, Try.ntmps6
  go_wp2_with fail
  refine (sanity_any _).mono ?_
  rintro e w1 ⟨rfl, hb⟩
  replace HB := bthen' HB hb
  replace A1 := A1.below hb
  replace A2 := A2.below hb
  clear hb
  go_wp2_with fail
  refine start_ (n := 14) (S := fun w' => True) (ds := []) #[false, false, false, false, false, false, false, false, false, false, false, false, false, false] (by kernel_rfl) rfl rfl trivial (fun hHeld => ?_)
  refine with_tabW fixTimes.tab2 fixTimes.bits2 (fun HT_ HW_ => ?_)
  replace HB := Aside0.mk (bdrew HB)
  replace A1 := Aside0.mk A1.drew
  replace A2 := Aside0.mk A2.drew
  generalize w1.drew = w1' at *
  have L6 : Aside0 (0 < w1'.heap.size) := ⟨Nat.lt_of_le_of_lt (Nat.zero_le _) A2.out.lt⟩
  have L7 := L6
  refine inv_at [0, 1, 2, 3, 4, 5, 6, 7, 8, 9, 10, 11, 12, 13] (fun a0_ b a w' => ∃ (g6 : Nat) (g7 : Nat) (m10_ : Value) (m11_ : Value), a = putSel a0_ b [(0, 15, .pointer (some ⟨w.heap.size, 0, none⟩)), (1, 16, .int .i64 an), (2, 17, .pointer (some ⟨w.heap.size, 1, none⟩)), (3, 18, .int .i64 ad), (4, 19, .agg #[.int .i64 cn, .int .i64 cd]), (5, 20, .pointer (some ⟨(w.heap.size + 1), 0, none⟩)), (6, 21, .int .i64 bn), (7, 22, .pointer (some ⟨(w.heap.size + 1), 1, none⟩)), (8, 23, .int .i64 bd), (9, 24, .agg #[.int .i64 dn, .int .i64 dd]), (10, 6, m10_), (11, 7, m11_)] ∧ (Below w.heap.size w w') ∧ (Blk w' w.heap.size #[.int .i64 an, .int .i64 ad] 31) ∧ (Blk w' (w.heap.size + 1) #[.int .i64 bn, .int .i64 bd] 31) ∧ (b 10 = true → b 12 = false → Blk w' g6 #[.int .i64 0, .int .i64 0] 31) ∧ (b 10 = true → b 12 = true → Blk w' g6 #[.int .i64 cn, .int .i64 cd] 31) ∧ (b 11 = true → b 13 = false → Blk w' g7 #[.int .i64 0, .int .i64 0] 31) ∧ (b 11 = true → b 13 = true → Blk w' g7 #[.int .i64 dn, .int .i64 dd] 31) ∧ (b 10 = true → w.heap.size + 1 < g6) ∧ (b 11 = true → w.heap.size + 1 < g7) ∧ (g6 < w'.heap.size) ∧ (g7 < w'.heap.size) ∧ (b 10 = true → b 11 = true → g6 ≠ g7) ∧ (b 10 = true → (m10_ : Value) = .pointer (some ⟨g6, 0, none⟩)) ∧ (b 11 = true → (m11_ : Value) = .pointer (some ⟨g7, 0, none⟩))) HT_.out HW_.out (by kernel_rfl) (by kernel_rfl) ?_ ?_ ?_
  · exact ⟨0, 0, .bool false, .bool false, by simp only [putSel, Bool.false_eq_true, if_false], HB.out, A1.out, A2.out, fun h_ => absurd h_ (by decide), fun h_ => absurd h_ (by decide), fun h_ => absurd h_ (by decide), fun h_ => absurd h_ (by decide), fun h_ => absurd h_ (by decide), fun h_ => absurd h_ (by decide), L6.out, L7.out, fun h_ => absurd h_ (by decide), fun h_ => absurd h_ (by decide), fun h_ => absurd h_ (by decide)⟩
  · skip
    clear A1 A2 HB L6 L7
    refine steps_cons ?_ ?_
    · rintro b a w' ⟨g6, g7, m10_, m11_, ha, Q_HB, Q_A1, Q_A2, Q_Z6, Q_F6, Q_Z7, Q_F7, Q_G6, Q_G7, Q_L6, Q_L7, Q_NE, Q_X10_, Q_X11_⟩ hb_ hon hoff
      refine ⟨_, rfl, fun K hK => ?_⟩
      have e2 : a.tmps[2]? = some (.pointer (some ⟨w.heap.size, 0, none⟩)) := by rw [ha]; exact (putSel_off rfl).trans rfl
      replace ha := Aside0.mk ha
      have HB := Aside0.mk Q_HB
      have A1 := Aside0.mk Q_A1
      have A2 := Aside0.mk Q_A2
      have L6 := Aside0.mk Q_L6
      have L7 := Aside0.mk Q_L7
      refine value_ (w1 := w') (v := .pointer (some ⟨w.heap.size, 0, none⟩)) (by rfl) rfl ?_ ?_
      · go_simp
        (try simp only [i64_w])
        try rfl
      refine hK.out _ _ ⟨g6, g7, m10_, m11_, (by rw [ha.out]; exact putSel_upk 0 hb_ rfl rfl rfl), Q_HB, Q_A1, Q_A2, Q_Z6, fun _ h1_ => absurd ((hoff 12 (by kernel_rfl)).symm.trans h1_) (by decide), Q_Z7, fun _ h1_ => absurd ((hoff 13 (by kernel_rfl)).symm.trans h1_) (by decide), Q_G6, Q_G7, Q_L6, Q_L7, Q_NE, Q_X10_, Q_X11_⟩
    refine steps_cons ?_ ?_
    · rintro b a w' ⟨g6, g7, m10_, m11_, ha, Q_HB, Q_A1, Q_A2, Q_Z6, Q_F6, Q_Z7, Q_F7, Q_G6, Q_G7, Q_L6, Q_L7, Q_NE, Q_X10_, Q_X11_⟩ hb_ hon hoff
      refine ⟨_, rfl, fun K hK => ?_⟩
      have e15 : a.tmps[15]? = some (.pointer (some ⟨w.heap.size, 0, none⟩)) := by rw [ha]; exact putSel_on (e := (0, 15, .pointer (some ⟨w.heap.size, 0, none⟩))) 0 rfl rfl (hon 0 (by kernel_rfl)) rfl
      replace ha := Aside0.mk ha
      have HB := Aside0.mk Q_HB
      have A1 := Aside0.mk Q_A1
      have A2 := Aside0.mk Q_A2
      have L6 := Aside0.mk Q_L6
      have L7 := Aside0.mk Q_L7
      have c0 : w'.cell? ⟨w.heap.size, 0, none⟩ = some (.int .i64 an) := A1.out.cell 0
      refine value_ (w1 := w') (v := .int .i64 an) (by rfl) rfl ?_ ?_
      · go_simp
        (try simp only [i64_w])
        try rfl
      refine hK.out _ _ ⟨g6, g7, m10_, m11_, (by rw [ha.out]; exact putSel_upk 1 hb_ rfl rfl rfl), Q_HB, Q_A1, Q_A2, Q_Z6, fun _ h1_ => absurd ((hoff 12 (by kernel_rfl)).symm.trans h1_) (by decide), Q_Z7, fun _ h1_ => absurd ((hoff 13 (by kernel_rfl)).symm.trans h1_) (by decide), Q_G6, Q_G7, Q_L6, Q_L7, Q_NE, Q_X10_, Q_X11_⟩
    refine steps_cons ?_ ?_
    · rintro b a w' ⟨g6, g7, m10_, m11_, ha, Q_HB, Q_A1, Q_A2, Q_Z6, Q_F6, Q_Z7, Q_F7, Q_G6, Q_G7, Q_L6, Q_L7, Q_NE, Q_X10_, Q_X11_⟩ hb_ hon hoff
      refine ⟨_, rfl, fun K hK => ?_⟩
      have e2 : a.tmps[2]? = some (.pointer (some ⟨w.heap.size, 0, none⟩)) := by rw [ha]; exact (putSel_off rfl).trans rfl
      replace ha := Aside0.mk ha
      have HB := Aside0.mk Q_HB
      have A1 := Aside0.mk Q_A1
      have A2 := Aside0.mk Q_A2
      have L6 := Aside0.mk Q_L6
      have L7 := Aside0.mk Q_L7
      refine value_ (w1 := w') (v := .pointer (some ⟨w.heap.size, 1, none⟩)) (by rfl) rfl ?_ ?_
      · go_simp
        (try simp only [i64_w])
        try rfl
      refine hK.out _ _ ⟨g6, g7, m10_, m11_, (by rw [ha.out]; exact putSel_upk 2 hb_ rfl rfl rfl), Q_HB, Q_A1, Q_A2, Q_Z6, fun _ h1_ => absurd ((hoff 12 (by kernel_rfl)).symm.trans h1_) (by decide), Q_Z7, fun _ h1_ => absurd ((hoff 13 (by kernel_rfl)).symm.trans h1_) (by decide), Q_G6, Q_G7, Q_L6, Q_L7, Q_NE, Q_X10_, Q_X11_⟩
    refine steps_cons ?_ ?_
    · rintro b a w' ⟨g6, g7, m10_, m11_, ha, Q_HB, Q_A1, Q_A2, Q_Z6, Q_F6, Q_Z7, Q_F7, Q_G6, Q_G7, Q_L6, Q_L7, Q_NE, Q_X10_, Q_X11_⟩ hb_ hon hoff
      refine ⟨_, rfl, fun K hK => ?_⟩
      have e17 : a.tmps[17]? = some (.pointer (some ⟨w.heap.size, 1, none⟩)) := by rw [ha]; exact putSel_on (e := (2, 17, .pointer (some ⟨w.heap.size, 1, none⟩))) 2 rfl rfl (hon 2 (by kernel_rfl)) rfl
      replace ha := Aside0.mk ha
      have HB := Aside0.mk Q_HB
      have A1 := Aside0.mk Q_A1
      have A2 := Aside0.mk Q_A2
      have L6 := Aside0.mk Q_L6
      have L7 := Aside0.mk Q_L7
      have c0 : w'.cell? ⟨w.heap.size, 1, none⟩ = some (.int .i64 ad) := A1.out.cell 1
      refine value_ (w1 := w') (v := .int .i64 ad) (by rfl) rfl ?_ ?_
      · go_simp
        (try simp only [i64_w])
        try rfl
      refine hK.out _ _ ⟨g6, g7, m10_, m11_, (by rw [ha.out]; exact putSel_upk 3 hb_ rfl rfl rfl), Q_HB, Q_A1, Q_A2, Q_Z6, fun _ h1_ => absurd ((hoff 12 (by kernel_rfl)).symm.trans h1_) (by decide), Q_Z7, fun _ h1_ => absurd ((hoff 13 (by kernel_rfl)).symm.trans h1_) (by decide), Q_G6, Q_G7, Q_L6, Q_L7, Q_NE, Q_X10_, Q_X11_⟩
    refine steps_cons ?_ ?_
    · rintro b a w' ⟨g6, g7, m10_, m11_, ha, Q_HB, Q_A1, Q_A2, Q_Z6, Q_F6, Q_Z7, Q_F7, Q_G6, Q_G7, Q_L6, Q_L7, Q_NE, Q_X10_, Q_X11_⟩ hb_ hon hoff
      refine ⟨_, rfl, fun K hK => ?_⟩
      have e16 : a.tmps[16]? = some (.int .i64 an) := by rw [ha]; exact putSel_on (e := (1, 16, .int .i64 an)) 1 rfl rfl (hon 1 (by kernel_rfl)) rfl
      have e18 : a.tmps[18]? = some (.int .i64 ad) := by rw [ha]; exact putSel_on (e := (3, 18, .int .i64 ad)) 3 rfl rfl (hon 3 (by kernel_rfl)) rfl
      replace ha := Aside0.mk ha
      have HB := Aside0.mk Q_HB
      have A1 := Aside0.mk Q_A1
      have A2 := Aside0.mk Q_A2
      have L6 := Aside0.mk Q_L6
      have L7 := Aside0.mk Q_L7
      refine goes_ Try.func23 (by kernel_rfl) rfl #[.int .i64 an, .int .i64 ad] (by rfl) rfl rfl (by first | (simp only [List.map_toArray, List.map_cons, List.map_nil, Act.eval, Array.getD_eq_getD_getElem?, Option.getD_some, e16, e18]; done) | (simp only [List.map_toArray, List.map_cons, List.map_nil, Act.eval, Array.getD_eq_getD_getElem?, Option.getD_some, e16, e18]; rfl)) ?_
      refine (made_hidC.out w').mono ?_
      rintro e w2 ⟨rfl, hb⟩
      refine ⟨_, rfl, ?_⟩
      refine hK.out _ _ ⟨g6, g7, m10_, m11_, (by rw [ha.out]; exact putSel_upk 4 hb_ rfl rfl rfl), bthen' HB.out hb, A1.out.below hb, A2.out.below hb, fun h0_ h1_ => (Q_Z6 h0_ h1_).below hb, fun _ h1_ => absurd ((hoff 12 (by kernel_rfl)).symm.trans h1_) (by decide), fun h0_ h1_ => (Q_Z7 h0_ h1_).below hb, fun _ h1_ => absurd ((hoff 13 (by kernel_rfl)).symm.trans h1_) (by decide), Q_G6, Q_G7, Nat.lt_of_lt_of_le L6.out hb.size, Nat.lt_of_lt_of_le L7.out hb.size, Q_NE, Q_X10_, Q_X11_⟩
    refine steps_cons ?_ ?_
    · rintro b a w' ⟨g6, g7, m10_, m11_, ha, Q_HB, Q_A1, Q_A2, Q_Z6, Q_F6, Q_Z7, Q_F7, Q_G6, Q_G7, Q_L6, Q_L7, Q_NE, Q_X10_, Q_X11_⟩ hb_ hon hoff
      refine ⟨_, rfl, fun K hK => ?_⟩
      have e3 : a.tmps[3]? = some (.pointer (some ⟨(w.heap.size + 1), 0, none⟩)) := by rw [ha]; exact (putSel_off rfl).trans rfl
      replace ha := Aside0.mk ha
      have HB := Aside0.mk Q_HB
      have A1 := Aside0.mk Q_A1
      have A2 := Aside0.mk Q_A2
      have L6 := Aside0.mk Q_L6
      have L7 := Aside0.mk Q_L7
      refine value_ (w1 := w') (v := .pointer (some ⟨(w.heap.size + 1), 0, none⟩)) (by rfl) rfl ?_ ?_
      · go_simp
        (try simp only [i64_w])
        try rfl
      refine hK.out _ _ ⟨g6, g7, m10_, m11_, (by rw [ha.out]; exact putSel_upk 5 hb_ rfl rfl rfl), Q_HB, Q_A1, Q_A2, Q_Z6, fun _ h1_ => absurd ((hoff 12 (by kernel_rfl)).symm.trans h1_) (by decide), Q_Z7, fun _ h1_ => absurd ((hoff 13 (by kernel_rfl)).symm.trans h1_) (by decide), Q_G6, Q_G7, Q_L6, Q_L7, Q_NE, Q_X10_, Q_X11_⟩
    refine steps_cons ?_ ?_
    · rintro b a w' ⟨g6, g7, m10_, m11_, ha, Q_HB, Q_A1, Q_A2, Q_Z6, Q_F6, Q_Z7, Q_F7, Q_G6, Q_G7, Q_L6, Q_L7, Q_NE, Q_X10_, Q_X11_⟩ hb_ hon hoff
      refine ⟨_, rfl, fun K hK => ?_⟩
      have e20 : a.tmps[20]? = some (.pointer (some ⟨(w.heap.size + 1), 0, none⟩)) := by rw [ha]; exact putSel_on (e := (5, 20, .pointer (some ⟨(w.heap.size + 1), 0, none⟩))) 5 rfl rfl (hon 5 (by kernel_rfl)) rfl
      replace ha := Aside0.mk ha
      have HB := Aside0.mk Q_HB
      have A1 := Aside0.mk Q_A1
      have A2 := Aside0.mk Q_A2
      have L6 := Aside0.mk Q_L6
      have L7 := Aside0.mk Q_L7
      have c0 : w'.cell? ⟨w.heap.size + 1, 0, none⟩ = some (.int .i64 bn) := A2.out.cell 0
      refine value_ (w1 := w') (v := .int .i64 bn) (by rfl) rfl ?_ ?_
      · go_simp
        (try simp only [i64_w])
        try rfl
      refine hK.out _ _ ⟨g6, g7, m10_, m11_, (by rw [ha.out]; exact putSel_upk 6 hb_ rfl rfl rfl), Q_HB, Q_A1, Q_A2, Q_Z6, fun _ h1_ => absurd ((hoff 12 (by kernel_rfl)).symm.trans h1_) (by decide), Q_Z7, fun _ h1_ => absurd ((hoff 13 (by kernel_rfl)).symm.trans h1_) (by decide), Q_G6, Q_G7, Q_L6, Q_L7, Q_NE, Q_X10_, Q_X11_⟩
    refine steps_cons ?_ ?_
    · rintro b a w' ⟨g6, g7, m10_, m11_, ha, Q_HB, Q_A1, Q_A2, Q_Z6, Q_F6, Q_Z7, Q_F7, Q_G6, Q_G7, Q_L6, Q_L7, Q_NE, Q_X10_, Q_X11_⟩ hb_ hon hoff
      refine ⟨_, rfl, fun K hK => ?_⟩
      have e3 : a.tmps[3]? = some (.pointer (some ⟨(w.heap.size + 1), 0, none⟩)) := by rw [ha]; exact (putSel_off rfl).trans rfl
      replace ha := Aside0.mk ha
      have HB := Aside0.mk Q_HB
      have A1 := Aside0.mk Q_A1
      have A2 := Aside0.mk Q_A2
      have L6 := Aside0.mk Q_L6
      have L7 := Aside0.mk Q_L7
      refine value_ (w1 := w') (v := .pointer (some ⟨(w.heap.size + 1), 1, none⟩)) (by rfl) rfl ?_ ?_
      · go_simp
        (try simp only [i64_w])
        try rfl
      refine hK.out _ _ ⟨g6, g7, m10_, m11_, (by rw [ha.out]; exact putSel_upk 7 hb_ rfl rfl rfl), Q_HB, Q_A1, Q_A2, Q_Z6, fun _ h1_ => absurd ((hoff 12 (by kernel_rfl)).symm.trans h1_) (by decide), Q_Z7, fun _ h1_ => absurd ((hoff 13 (by kernel_rfl)).symm.trans h1_) (by decide), Q_G6, Q_G7, Q_L6, Q_L7, Q_NE, Q_X10_, Q_X11_⟩
    refine steps_cons ?_ ?_
    · rintro b a w' ⟨g6, g7, m10_, m11_, ha, Q_HB, Q_A1, Q_A2, Q_Z6, Q_F6, Q_Z7, Q_F7, Q_G6, Q_G7, Q_L6, Q_L7, Q_NE, Q_X10_, Q_X11_⟩ hb_ hon hoff
      refine ⟨_, rfl, fun K hK => ?_⟩
      have e22 : a.tmps[22]? = some (.pointer (some ⟨(w.heap.size + 1), 1, none⟩)) := by rw [ha]; exact putSel_on (e := (7, 22, .pointer (some ⟨(w.heap.size + 1), 1, none⟩))) 7 rfl rfl (hon 7 (by kernel_rfl)) rfl
      replace ha := Aside0.mk ha
      have HB := Aside0.mk Q_HB
      have A1 := Aside0.mk Q_A1
      have A2 := Aside0.mk Q_A2
      have L6 := Aside0.mk Q_L6
      have L7 := Aside0.mk Q_L7
      have c0 : w'.cell? ⟨w.heap.size + 1, 1, none⟩ = some (.int .i64 bd) := A2.out.cell 1
      refine value_ (w1 := w') (v := .int .i64 bd) (by rfl) rfl ?_ ?_
      · go_simp
        (try simp only [i64_w])
        try rfl
      refine hK.out _ _ ⟨g6, g7, m10_, m11_, (by rw [ha.out]; exact putSel_upk 8 hb_ rfl rfl rfl), Q_HB, Q_A1, Q_A2, Q_Z6, fun _ h1_ => absurd ((hoff 12 (by kernel_rfl)).symm.trans h1_) (by decide), Q_Z7, fun _ h1_ => absurd ((hoff 13 (by kernel_rfl)).symm.trans h1_) (by decide), Q_G6, Q_G7, Q_L6, Q_L7, Q_NE, Q_X10_, Q_X11_⟩
    refine steps_cons ?_ ?_
    · rintro b a w' ⟨g6, g7, m10_, m11_, ha, Q_HB, Q_A1, Q_A2, Q_Z6, Q_F6, Q_Z7, Q_F7, Q_G6, Q_G7, Q_L6, Q_L7, Q_NE, Q_X10_, Q_X11_⟩ hb_ hon hoff
      refine ⟨_, rfl, fun K hK => ?_⟩
      have e21 : a.tmps[21]? = some (.int .i64 bn) := by rw [ha]; exact putSel_on (e := (6, 21, .int .i64 bn)) 6 rfl rfl (hon 6 (by kernel_rfl)) rfl
      have e23 : a.tmps[23]? = some (.int .i64 bd) := by rw [ha]; exact putSel_on (e := (8, 23, .int .i64 bd)) 8 rfl rfl (hon 8 (by kernel_rfl)) rfl
      replace ha := Aside0.mk ha
      have HB := Aside0.mk Q_HB
      have A1 := Aside0.mk Q_A1
      have A2 := Aside0.mk Q_A2
      have L6 := Aside0.mk Q_L6
      have L7 := Aside0.mk Q_L7
      refine goes_ Try.func23 (by kernel_rfl) rfl #[.int .i64 bn, .int .i64 bd] (by rfl) rfl rfl (by first | (simp only [List.map_toArray, List.map_cons, List.map_nil, Act.eval, Array.getD_eq_getD_getElem?, Option.getD_some, e21, e23]; done) | (simp only [List.map_toArray, List.map_cons, List.map_nil, Act.eval, Array.getD_eq_getD_getElem?, Option.getD_some, e21, e23]; rfl)) ?_
      refine (made_hidD.out w').mono ?_
      rintro e w2 ⟨rfl, hb⟩
      refine ⟨_, rfl, ?_⟩
      refine hK.out _ _ ⟨g6, g7, m10_, m11_, (by rw [ha.out]; exact putSel_upk 9 hb_ rfl rfl rfl), bthen' HB.out hb, A1.out.below hb, A2.out.below hb, fun h0_ h1_ => (Q_Z6 h0_ h1_).below hb, fun _ h1_ => absurd ((hoff 12 (by kernel_rfl)).symm.trans h1_) (by decide), fun h0_ h1_ => (Q_Z7 h0_ h1_).below hb, fun _ h1_ => absurd ((hoff 13 (by kernel_rfl)).symm.trans h1_) (by decide), Q_G6, Q_G7, Nat.lt_of_lt_of_le L6.out hb.size, Nat.lt_of_lt_of_le L7.out hb.size, Q_NE, Q_X10_, Q_X11_⟩
    refine steps_cons ?_ ?_
    · rintro b a w' ⟨g6, g7, m10_, m11_, ha, Q_HB, Q_A1, Q_A2, Q_Z6, Q_F6, Q_Z7, Q_F7, Q_G6, Q_G7, Q_L6, Q_L7, Q_NE, Q_X10_, Q_X11_⟩ hb_ hon hoff
      refine ⟨_, rfl, fun K hK => ?_⟩
      replace ha := Aside0.mk ha
      have HB := Aside0.mk Q_HB
      have A1 := Aside0.mk Q_A1
      have A2 := Aside0.mk Q_A2
      have L6 := Aside0.mk Q_L6
      have L7 := Aside0.mk Q_L7
      refine value_ (w1 := w'.alloc (.cells #[.int .i64 0, .int .i64 0] 31)) (v := .pointer (some ⟨w'.heap.size, 0, none⟩)) (by rfl) rfl ?_ ?_
      · go_simp
      refine hK.out _ _ ⟨w'.heap.size, g7, (.pointer (some ⟨w'.heap.size, 0, none⟩)), m11_, (by rw [ha.out]; exact putSel_upk 10 hb_ rfl rfl rfl), balloc HB.out (.cells #[.int .i64 0, .int .i64 0] 31), A1.out.alloc (.cells #[.int .i64 0, .int .i64 0] 31), A2.out.alloc (.cells #[.int .i64 0, .int .i64 0] 31), fun _ _ => Blk.new w' #[.int .i64 0, .int .i64 0] 31 rfl, fun _ h1_ => absurd ((hoff 12 (by kernel_rfl)).symm.trans h1_) (by decide), fun h0_ h1_ => (Q_Z7 h0_ h1_).alloc (.cells #[.int .i64 0, .int .i64 0] 31), fun _ h1_ => absurd ((hoff 13 (by kernel_rfl)).symm.trans h1_) (by decide), fun _ => A2.out.lt, Q_G7, (by simp), (by have := L7.out; simp; omega), fun _ _ => Nat.ne_of_gt L7.out, fun _ => rfl, Q_X11_⟩
    refine steps_cons ?_ ?_
    · rintro b a w' ⟨g6, g7, m10_, m11_, ha, Q_HB, Q_A1, Q_A2, Q_Z6, Q_F6, Q_Z7, Q_F7, Q_G6, Q_G7, Q_L6, Q_L7, Q_NE, Q_X10_, Q_X11_⟩ hb_ hon hoff
      refine ⟨_, rfl, fun K hK => ?_⟩
      replace ha := Aside0.mk ha
      have HB := Aside0.mk Q_HB
      have A1 := Aside0.mk Q_A1
      have A2 := Aside0.mk Q_A2
      have L6 := Aside0.mk Q_L6
      have L7 := Aside0.mk Q_L7
      refine value_ (w1 := w'.alloc (.cells #[.int .i64 0, .int .i64 0] 31)) (v := .pointer (some ⟨w'.heap.size, 0, none⟩)) (by rfl) rfl ?_ ?_
      · go_simp
      refine hK.out _ _ ⟨g6, w'.heap.size, m10_, (.pointer (some ⟨w'.heap.size, 0, none⟩)), (by rw [ha.out]; exact putSel_upk 11 hb_ rfl rfl rfl), balloc HB.out (.cells #[.int .i64 0, .int .i64 0] 31), A1.out.alloc (.cells #[.int .i64 0, .int .i64 0] 31), A2.out.alloc (.cells #[.int .i64 0, .int .i64 0] 31), fun h0_ h1_ => (Q_Z6 h0_ h1_).alloc (.cells #[.int .i64 0, .int .i64 0] 31), fun _ h1_ => absurd ((hoff 12 (by kernel_rfl)).symm.trans h1_) (by decide), fun _ _ => Blk.new w' #[.int .i64 0, .int .i64 0] 31 rfl, fun _ h1_ => absurd ((hoff 13 (by kernel_rfl)).symm.trans h1_) (by decide), Q_G6, fun _ => A2.out.lt, (by have := L6.out; simp; omega), (by simp), fun _ _ => Nat.ne_of_lt L6.out, Q_X10_, fun _ => rfl⟩
    refine steps_cons ?_ ?_
    · rintro b a w' ⟨g6, g7, m10_, m11_, ha, Q_HB, Q_A1, Q_A2, Q_Z6, Q_F6, Q_Z7, Q_F7, Q_G6, Q_G7, Q_L6, Q_L7, Q_NE, Q_X10_, Q_X11_⟩ hb_ hon hoff
      refine ⟨_, rfl, fun K hK => ?_⟩
      have e6 : a.tmps[6]? = some (m10_) := by rw [ha]; exact putSel_on (e := (10, 6, m10_)) 10 rfl rfl (hon 10 (by kernel_rfl)) rfl
      rw [Q_X10_ (hon 10 (by kernel_rfl))] at e6
      have e19 : a.tmps[19]? = some (.agg #[.int .i64 cn, .int .i64 cd]) := by rw [ha]; exact putSel_on (e := (4, 19, .agg #[.int .i64 cn, .int .i64 cd])) 4 rfl rfl (hon 4 (by kernel_rfl)) rfl
      replace ha := Aside0.mk ha
      have HB := Aside0.mk Q_HB
      have A1 := Aside0.mk Q_A1
      have A2 := Aside0.mk Q_A2
      have Z6 := Aside0.mk (Q_Z6 (hon 10 (by kernel_rfl)) hb_)
      have Z7 := Aside0.mk (Q_Z7 (hon 11 (by kernel_rfl)) (hoff 13 (by kernel_rfl)))
      have G6 := Aside0.mk (Q_G6 (hon 10 (by kernel_rfl)))
      have G7 := Aside0.mk (Q_G7 (hon 11 (by kernel_rfl)))
      have L6 := Aside0.mk Q_L6
      have L7 := Aside0.mk Q_L7
      have NE := Aside0.mk (Q_NE (hon 10 (by kernel_rfl)) (hon 11 (by kernel_rfl)))
      have c0 : w'.cell? ⟨g6, 0, none⟩ = some (.int .i64 0) := Z6.out.cell 0
      have c1 : w'.cell? ⟨g6, 1, none⟩ = some (.int .i64 0) := Z6.out.cell 1
      have f0 : w'.frozen? ⟨g6, 0, none⟩ = false := Z6.out.frozen 0
      have f1 : w'.frozen? ⟨g6, 1, none⟩ = false := Z6.out.frozen 1
      refine skip_ (w1 := ((w'.setCell ⟨g6, 0, none⟩ (.int .i64 cn)).setCell ⟨g6, 1, none⟩ (.int .i64 cd))) (by rfl) rfl ?_ ?_
      · go_simp
      refine hK.out _ _ ⟨g6, g7, m10_, m11_, (by rw [ha.out]; exact putSel_none (v := undef) rfl), bset (bset HB.out (by have := G6.out; omega) 0 _) (by have := G6.out; omega) 1 _, (A1.out.far (by have := G6.out; omega) 0 _).far (by have := G6.out; omega) 1 _, (A2.out.far (by have := G6.out; omega) 0 _).far (by have := G6.out; omega) 1 _, fun _ h1_ => absurd ((up_self b 12).symm.trans h1_) (by decide), fun _ _ => (Z6.out.put 0 _ rfl).put 1 _ rfl, fun _ _ => (by have hne := Q_NE (hon 10 (by kernel_rfl)) (hon 11 (by kernel_rfl)); exact (Z7.out.far (Ne.symm hne) 0 _).far (Ne.symm hne) 1 _), fun _ h1_ => absurd ((hoff 13 (by kernel_rfl)).symm.trans h1_) (by decide), Q_G6, Q_G7, (by have := L6.out; simpa using this), (by have := L7.out; simpa using this), Q_NE, Q_X10_, Q_X11_⟩
    refine steps_cons ?_ ?_
    · rintro b a w' ⟨g6, g7, m10_, m11_, ha, Q_HB, Q_A1, Q_A2, Q_Z6, Q_F6, Q_Z7, Q_F7, Q_G6, Q_G7, Q_L6, Q_L7, Q_NE, Q_X10_, Q_X11_⟩ hb_ hon hoff
      refine ⟨_, rfl, fun K hK => ?_⟩
      have e7 : a.tmps[7]? = some (m11_) := by rw [ha]; exact putSel_on (e := (11, 7, m11_)) 11 rfl rfl (hon 11 (by kernel_rfl)) rfl
      rw [Q_X11_ (hon 11 (by kernel_rfl))] at e7
      have e24 : a.tmps[24]? = some (.agg #[.int .i64 dn, .int .i64 dd]) := by rw [ha]; exact putSel_on (e := (9, 24, .agg #[.int .i64 dn, .int .i64 dd])) 9 rfl rfl (hon 9 (by kernel_rfl)) rfl
      replace ha := Aside0.mk ha
      have HB := Aside0.mk Q_HB
      have A1 := Aside0.mk Q_A1
      have A2 := Aside0.mk Q_A2
      have F6 := Aside0.mk (Q_F6 (hon 10 (by kernel_rfl)) (hon 12 (by kernel_rfl)))
      have Z7 := Aside0.mk (Q_Z7 (hon 11 (by kernel_rfl)) hb_)
      have G6 := Aside0.mk (Q_G6 (hon 10 (by kernel_rfl)))
      have G7 := Aside0.mk (Q_G7 (hon 11 (by kernel_rfl)))
      have L6 := Aside0.mk Q_L6
      have L7 := Aside0.mk Q_L7
      have NE := Aside0.mk (Q_NE (hon 10 (by kernel_rfl)) (hon 11 (by kernel_rfl)))
      have c0 : w'.cell? ⟨g7, 0, none⟩ = some (.int .i64 0) := Z7.out.cell 0
      have c1 : w'.cell? ⟨g7, 1, none⟩ = some (.int .i64 0) := Z7.out.cell 1
      have f0 : w'.frozen? ⟨g7, 0, none⟩ = false := Z7.out.frozen 0
      have f1 : w'.frozen? ⟨g7, 1, none⟩ = false := Z7.out.frozen 1
      refine skip_ (w1 := ((w'.setCell ⟨g7, 0, none⟩ (.int .i64 dn)).setCell ⟨g7, 1, none⟩ (.int .i64 dd))) (by rfl) rfl ?_ ?_
      · go_simp
      refine hK.out _ _ ⟨g6, g7, m10_, m11_, (by rw [ha.out]; exact putSel_none (v := undef) rfl), bset (bset HB.out (by have := G7.out; omega) 0 _) (by have := G7.out; omega) 1 _, (A1.out.far (by have := G7.out; omega) 0 _).far (by have := G7.out; omega) 1 _, (A2.out.far (by have := G7.out; omega) 0 _).far (by have := G7.out; omega) 1 _, fun _ h1_ => absurd ((hon 12 (by kernel_rfl)).symm.trans h1_) (by decide), fun _ _ => (by have hne := Q_NE (hon 10 (by kernel_rfl)) (hon 11 (by kernel_rfl)); exact (F6.out.far hne 0 _).far hne 1 _), fun _ h1_ => absurd ((up_self b 13).symm.trans h1_) (by decide), fun _ _ => (Z7.out.put 0 _ rfl).put 1 _ rfl, Q_G6, Q_G7, (by have := L6.out; simpa using this), (by have := L7.out; simpa using this), Q_NE, Q_X10_, Q_X11_⟩
    exact steps_nil
  · rintro b a w' hall ⟨g6, g7, m10_, m11_, ha, Q_HB, Q_A1, Q_A2, Q_Z6, Q_F6, Q_Z7, Q_F7, Q_G6, Q_G7, Q_L6, Q_L7, Q_NE, Q_X10_, Q_X11_⟩
    clear A1 A2 HB L6 L7
    have hb0_ := hall 0 (by kernel_rfl)
    have hb1_ := hall 1 (by kernel_rfl)
    have hb2_ := hall 2 (by kernel_rfl)
    have hb3_ := hall 3 (by kernel_rfl)
    have hb4_ := hall 4 (by kernel_rfl)
    have hb5_ := hall 5 (by kernel_rfl)
    have hb6_ := hall 6 (by kernel_rfl)
    have hb7_ := hall 7 (by kernel_rfl)
    have hb8_ := hall 8 (by kernel_rfl)
    have hb9_ := hall 9 (by kernel_rfl)
    have hb10_ := hall 10 (by kernel_rfl)
    have hb11_ := hall 11 (by kernel_rfl)
    have hb12_ := hall 12 (by kernel_rfl)
    have hb13_ := hall 13 (by kernel_rfl)
    subst ha
    obtain rfl := Q_X10_ hb10_
    obtain rfl := Q_X11_ hb11_
    simp only [putSel, hb0_, hb1_, hb2_, hb3_, hb4_, hb5_, hb6_, hb7_, hb8_, hb9_, hb10_, hb11_, hb12_, hb13_, if_true, Act.put, List.setIfInBounds_toArray, List.set_cons_zero, List.set_cons_succ]
    have HB := Aside0.mk Q_HB
    clear Q_HB
    have A1 := Aside0.mk Q_A1
    clear Q_A1
    have A2 := Aside0.mk Q_A2
    clear Q_A2
    clear Q_Z6
    have F6 := Aside0.mk (Q_F6 hb10_ hb12_)
    clear Q_F6
    clear Q_Z7
    have F7 := Aside0.mk (Q_F7 hb11_ hb13_)
    clear Q_F7
    have G6 := Aside0.mk (Q_G6 hb10_)
    clear Q_G6
    have G7 := Aside0.mk (Q_G7 hb11_)
    clear Q_G7
    have L6 := Aside0.mk Q_L6
    clear Q_L6
    have L7 := Aside0.mk Q_L7
    clear Q_L7
    have NE := Aside0.mk (Q_NE hb10_ hb11_)
    clear Q_NE
    clear hall hb0_ hb1_ hb2_ hb3_ hb4_ hb5_ hb6_ hb7_ hb8_ hb9_ hb10_ hb11_ hb12_ hb13_
    have HB := HB.out
    have cells (A1_ : Blk w' w.heap.size #[.int .i64 an, .int .i64 ad] 31) (A2_ : Blk w' (w.heap.size + 1) #[.int .i64 bn, .int .i64 bd] 31) (F6_ : Blk w' g6 #[.int .i64 cn, .int .i64 cd] 31) (F7_ : Blk w' g7 #[.int .i64 dn, .int .i64 dd] 31) : True := trivial
    clear cells
    have k1 : w'.cell? ⟨w.heap.size, 0, none⟩ = some (.int .i64 an) := A1.out.cell 0
    have k2 : w'.cell? ⟨w.heap.size, 1, none⟩ = some (.int .i64 ad) := A1.out.cell 1
    have k3 : w'.cell? ⟨w.heap.size + 1, 0, none⟩ = some (.int .i64 bn) := A2.out.cell 0
    have k4 : w'.cell? ⟨w.heap.size + 1, 1, none⟩ = some (.int .i64 bd) := A2.out.cell 1
    have k5 : w'.cell? ⟨g6, 0, none⟩ = some (.int .i64 cn) := F6.out.cell 0
    have k6 : w'.cell? ⟨g6, 1, none⟩ = some (.int .i64 cd) := F6.out.cell 1
    have k7 : w'.cell? ⟨g7, 0, none⟩ = some (.int .i64 dn) := F7.out.cell 0
    have k8 : w'.cell? ⟨g7, 1, none⟩ = some (.int .i64 dd) := F7.out.cell 1
    go_wp2_with fail
    clear k1 k2 k3 k4 k5 k6 k7 k8 A1 A2 F6 F7 G6 G7 L6 L7 NE
    have R := Blk.new w' #[.int .i64 an, .int .i64 ad, .int .i64 bn, .int .i64 bd, .int .i64 an, .int .i64 ad, .int .i64 dn, .int .i64 dd, .int .i64 cn, .int .i64 cd, .int .i64 bn, .int .i64 bd, .int .i64 cn, .int .i64 cd, .int .i64 dn, .int .i64 dd] 37 rfl
    replace HB := balloc HB (.cells #[.int .i64 an, .int .i64 ad, .int .i64 bn, .int .i64 bd, .int .i64 an, .int .i64 ad, .int .i64 dn, .int .i64 dd, .int .i64 cn, .int .i64 cd, .int .i64 bn, .int .i64 bd, .int .i64 cn, .int .i64 cd, .int .i64 dn, .int .i64 dd] 37)
    generalize hg : w'.heap.size = g at *
    clear hg
    generalize w'.alloc _ = w2 at *
    have HR := Lib.hid R
    have HH := Lib.hid HB
    clear R HB
    go_loopw [39] (fun i wr => ∃ k : Int, (k = 0 ∨ k = 1 ∨ k = 2 ∨ k = 3 ∨ k = 4) ∧ i = .int .i64 k ∧ Hid (Blk wr g #[.int .i64 an, .int .i64 ad, .int .i64 bn, .int .i64 bd, .int .i64 an, .int .i64 ad, .int .i64 dn, .int .i64 dd, .int .i64 cn, .int .i64 cd, .int .i64 bn, .int .i64 bd, .int .i64 cn, .int .i64 cd, .int .i64 dn, .int .i64 dd] 37) ∧ Hid (Below w.heap.size w wr)) (fun i _ => (4 - intOf i).toNat)
    case atStart => exact ⟨0, .inl rfl, rfl, HR, HH⟩
    case round =>
      clear HR HH
      obtain ⟨k, hk, rfl, R0, B0⟩ := hrel
      have R := R0.out
      have HB := B0.out
      clear R0 B0
      rcases hk with rfl | rfl | rfl | rfl | rfl
      · have c0 : wr.cell? ⟨g, 0, none⟩ = some (.int .i64 an) := R.cell 0
        have c1 : wr.cell? ⟨g, 1, none⟩ = some (.int .i64 ad) := R.cell 1
        have c2 : wr.cell? ⟨g, 2, none⟩ = some (.int .i64 bn) := R.cell 2
        have c3 : wr.cell? ⟨g, 3, none⟩ = some (.int .i64 bd) := R.cell 3
        go_wp2_with fail
        clear c0 c1 c2 c3
        have X : Blk (wr.alloc (.cells #[.int .i64 an, .int .i64 ad, .int .i64 bn, .int .i64 bd] 37)) wr.heap.size #[.int .i64 an, .int .i64 ad, .int .i64 bn, .int .i64 bd] 37 := Blk.new wr _ _ rfl
        replace HB := balloc HB (.cells #[.int .i64 an, .int .i64 ad, .int .i64 bn, .int .i64 bd] 37)
        replace R := R.alloc (.cells #[.int .i64 an, .int .i64 ad, .int .i64 bn, .int .i64 bd] 37)
        generalize wr.heap.size = g9 at *
        generalize wr.alloc _ = v0 at *
        have rtimes_hid_0 := Lib.hid (fun w => rtimes_any an ad bn bd w)
        refine (times_any _ _ _ _ _).mono ?_
        rintro e v1 ⟨rfl, hb⟩
        replace HB := bthen' HB hb
        replace R := R.below hb
        replace X := X.below hb
        clear hb
        have k1 : v1.cell? ⟨g9, 0, none⟩ = some (.int .i64 an) := X.cell 0
        have k2 : v1.cell? ⟨g9, 1, none⟩ = some (.int .i64 ad) := X.cell 1
        have k3 : v1.cell? ⟨g9, 2, none⟩ = some (.int .i64 bn) := X.cell 2
        have k4 : v1.cell? ⟨g9, 3, none⟩ = some (.int .i64 bd) := X.cell 3
        have h9 : g9 < v1.heap.size := X.lt
        go_wp2_with fail
        clear k1 k2 k3 k4 h9 X
        generalize timesN an ad bn bd = tn at *
        generalize timesD an ad bn bd = td at *
        generalize timesOk an ad bn bd = tk at *
        have Y : Blk (v1.alloc (.cells #[.int .i64 tn, .int .i64 td] 31)) v1.heap.size #[.int .i64 tn, .int .i64 td] 31 := Blk.new v1 _ _ rfl
        replace HB := balloc HB (.cells #[.int .i64 tn, .int .i64 td] 31)
        replace R := R.alloc (.cells #[.int .i64 tn, .int .i64 td] 31)
        generalize v1.heap.size = g10 at *
        generalize v1.alloc _ = v2 at *
        refine (rtimes_hid_0.out _).mono ?_
        rintro e v3 ⟨rfl, hb⟩
        replace HB := bthen' HB hb
        replace R := R.below hb
        replace Y := Y.below hb
        clear hb
        have HR := Lib.hid R
        have HH := Lib.hid HB
        clear R HB
        have k1 : v3.cell? ⟨g10, 0, none⟩ = some (.int .i64 tn) := Y.cell 0
        have k2 : v3.cell? ⟨g10, 1, none⟩ = some (.int .i64 td) := Y.cell 1
        have h9 : g10 < v3.heap.size := Y.lt
        have e1 : (tn == tn) = true := by simp
        have e2 : (td == td) = true := by simp
        have e3 : (tk != tk) = false := by simp
        replace HR := Lib.hid (HR.out.alloc (.cells #[.int .i64 tn, .int .i64 td] 31))
        replace HH := Lib.hid (balloc HH.out (.cells #[.int .i64 tn, .int .i64 td] 31))
        go_wp2
        go_roundw
        case rel => exact ⟨1, by simp, rfl, HR, HH⟩
        case measure => simp [intOf]
      · have c0 : wr.cell? ⟨g, 4, none⟩ = some (.int .i64 an) := R.cell 4
        have c1 : wr.cell? ⟨g, 5, none⟩ = some (.int .i64 ad) := R.cell 5
        have c2 : wr.cell? ⟨g, 6, none⟩ = some (.int .i64 dn) := R.cell 6
        have c3 : wr.cell? ⟨g, 7, none⟩ = some (.int .i64 dd) := R.cell 7
        go_wp2_with fail
        clear c0 c1 c2 c3
        have X : Blk (wr.alloc (.cells #[.int .i64 an, .int .i64 ad, .int .i64 dn, .int .i64 dd] 37)) wr.heap.size #[.int .i64 an, .int .i64 ad, .int .i64 dn, .int .i64 dd] 37 := Blk.new wr _ _ rfl
        replace HB := balloc HB (.cells #[.int .i64 an, .int .i64 ad, .int .i64 dn, .int .i64 dd] 37)
        replace R := R.alloc (.cells #[.int .i64 an, .int .i64 ad, .int .i64 dn, .int .i64 dd] 37)
        generalize wr.heap.size = g9 at *
        generalize wr.alloc _ = v0 at *
        have rtimes_hid_1 := Lib.hid (fun w => rtimes_any an ad dn dd w)
        refine (times_any _ _ _ _ _).mono ?_
        rintro e v1 ⟨rfl, hb⟩
        replace HB := bthen' HB hb
        replace R := R.below hb
        replace X := X.below hb
        clear hb
        have k1 : v1.cell? ⟨g9, 0, none⟩ = some (.int .i64 an) := X.cell 0
        have k2 : v1.cell? ⟨g9, 1, none⟩ = some (.int .i64 ad) := X.cell 1
        have k3 : v1.cell? ⟨g9, 2, none⟩ = some (.int .i64 dn) := X.cell 2
        have k4 : v1.cell? ⟨g9, 3, none⟩ = some (.int .i64 dd) := X.cell 3
        have h9 : g9 < v1.heap.size := X.lt
        go_wp2_with fail
        clear k1 k2 k3 k4 h9 X
        generalize timesN an ad dn dd = tn at *
        generalize timesD an ad dn dd = td at *
        generalize timesOk an ad dn dd = tk at *
        have Y : Blk (v1.alloc (.cells #[.int .i64 tn, .int .i64 td] 31)) v1.heap.size #[.int .i64 tn, .int .i64 td] 31 := Blk.new v1 _ _ rfl
        replace HB := balloc HB (.cells #[.int .i64 tn, .int .i64 td] 31)
        replace R := R.alloc (.cells #[.int .i64 tn, .int .i64 td] 31)
        generalize v1.heap.size = g10 at *
        generalize v1.alloc _ = v2 at *
        refine (rtimes_hid_1.out _).mono ?_
        rintro e v3 ⟨rfl, hb⟩
        replace HB := bthen' HB hb
        replace R := R.below hb
        replace Y := Y.below hb
        clear hb
        have HR := Lib.hid R
        have HH := Lib.hid HB
        clear R HB
        have k1 : v3.cell? ⟨g10, 0, none⟩ = some (.int .i64 tn) := Y.cell 0
        have k2 : v3.cell? ⟨g10, 1, none⟩ = some (.int .i64 td) := Y.cell 1
        have h9 : g10 < v3.heap.size := Y.lt
        have e1 : (tn == tn) = true := by simp
        have e2 : (td == td) = true := by simp
        have e3 : (tk != tk) = false := by simp
        replace HR := Lib.hid (HR.out.alloc (.cells #[.int .i64 tn, .int .i64 td] 31))
        replace HH := Lib.hid (balloc HH.out (.cells #[.int .i64 tn, .int .i64 td] 31))
        go_wp2
        go_roundw
        case rel => exact ⟨2, by simp, rfl, HR, HH⟩
        case measure => simp [intOf]
      · have c0 : wr.cell? ⟨g, 8, none⟩ = some (.int .i64 cn) := R.cell 8
        have c1 : wr.cell? ⟨g, 9, none⟩ = some (.int .i64 cd) := R.cell 9
        have c2 : wr.cell? ⟨g, 10, none⟩ = some (.int .i64 bn) := R.cell 10
        have c3 : wr.cell? ⟨g, 11, none⟩ = some (.int .i64 bd) := R.cell 11
        go_wp2_with fail
        clear c0 c1 c2 c3
        have X : Blk (wr.alloc (.cells #[.int .i64 cn, .int .i64 cd, .int .i64 bn, .int .i64 bd] 37)) wr.heap.size #[.int .i64 cn, .int .i64 cd, .int .i64 bn, .int .i64 bd] 37 := Blk.new wr _ _ rfl
        replace HB := balloc HB (.cells #[.int .i64 cn, .int .i64 cd, .int .i64 bn, .int .i64 bd] 37)
        replace R := R.alloc (.cells #[.int .i64 cn, .int .i64 cd, .int .i64 bn, .int .i64 bd] 37)
        generalize wr.heap.size = g9 at *
        generalize wr.alloc _ = v0 at *
        have rtimes_hid_2 := Lib.hid (fun w => rtimes_any cn cd bn bd w)
        refine (times_any _ _ _ _ _).mono ?_
        rintro e v1 ⟨rfl, hb⟩
        replace HB := bthen' HB hb
        replace R := R.below hb
        replace X := X.below hb
        clear hb
        have k1 : v1.cell? ⟨g9, 0, none⟩ = some (.int .i64 cn) := X.cell 0
        have k2 : v1.cell? ⟨g9, 1, none⟩ = some (.int .i64 cd) := X.cell 1
        have k3 : v1.cell? ⟨g9, 2, none⟩ = some (.int .i64 bn) := X.cell 2
        have k4 : v1.cell? ⟨g9, 3, none⟩ = some (.int .i64 bd) := X.cell 3
        have h9 : g9 < v1.heap.size := X.lt
        go_wp2_with fail
        clear k1 k2 k3 k4 h9 X
        generalize timesN cn cd bn bd = tn at *
        generalize timesD cn cd bn bd = td at *
        generalize timesOk cn cd bn bd = tk at *
        have Y : Blk (v1.alloc (.cells #[.int .i64 tn, .int .i64 td] 31)) v1.heap.size #[.int .i64 tn, .int .i64 td] 31 := Blk.new v1 _ _ rfl
        replace HB := balloc HB (.cells #[.int .i64 tn, .int .i64 td] 31)
        replace R := R.alloc (.cells #[.int .i64 tn, .int .i64 td] 31)
        generalize v1.heap.size = g10 at *
        generalize v1.alloc _ = v2 at *
        refine (rtimes_hid_2.out _).mono ?_
        rintro e v3 ⟨rfl, hb⟩
        replace HB := bthen' HB hb
        replace R := R.below hb
        replace Y := Y.below hb
        clear hb
        have HR := Lib.hid R
        have HH := Lib.hid HB
        clear R HB
        have k1 : v3.cell? ⟨g10, 0, none⟩ = some (.int .i64 tn) := Y.cell 0
        have k2 : v3.cell? ⟨g10, 1, none⟩ = some (.int .i64 td) := Y.cell 1
        have h9 : g10 < v3.heap.size := Y.lt
        have e1 : (tn == tn) = true := by simp
        have e2 : (td == td) = true := by simp
        have e3 : (tk != tk) = false := by simp
        replace HR := Lib.hid (HR.out.alloc (.cells #[.int .i64 tn, .int .i64 td] 31))
        replace HH := Lib.hid (balloc HH.out (.cells #[.int .i64 tn, .int .i64 td] 31))
        go_wp2
        go_roundw
        case rel => exact ⟨3, by simp, rfl, HR, HH⟩
        case measure => simp [intOf]
      · have c0 : wr.cell? ⟨g, 12, none⟩ = some (.int .i64 cn) := R.cell 12
        have c1 : wr.cell? ⟨g, 13, none⟩ = some (.int .i64 cd) := R.cell 13
        have c2 : wr.cell? ⟨g, 14, none⟩ = some (.int .i64 dn) := R.cell 14
        have c3 : wr.cell? ⟨g, 15, none⟩ = some (.int .i64 dd) := R.cell 15
        go_wp2_with fail
        clear c0 c1 c2 c3
        have X : Blk (wr.alloc (.cells #[.int .i64 cn, .int .i64 cd, .int .i64 dn, .int .i64 dd] 37)) wr.heap.size #[.int .i64 cn, .int .i64 cd, .int .i64 dn, .int .i64 dd] 37 := Blk.new wr _ _ rfl
        replace HB := balloc HB (.cells #[.int .i64 cn, .int .i64 cd, .int .i64 dn, .int .i64 dd] 37)
        replace R := R.alloc (.cells #[.int .i64 cn, .int .i64 cd, .int .i64 dn, .int .i64 dd] 37)
        generalize wr.heap.size = g9 at *
        generalize wr.alloc _ = v0 at *
        have rtimes_hid_3 := Lib.hid (fun w => rtimes_any cn cd dn dd w)
        refine (times_any _ _ _ _ _).mono ?_
        rintro e v1 ⟨rfl, hb⟩
        replace HB := bthen' HB hb
        replace R := R.below hb
        replace X := X.below hb
        clear hb
        have k1 : v1.cell? ⟨g9, 0, none⟩ = some (.int .i64 cn) := X.cell 0
        have k2 : v1.cell? ⟨g9, 1, none⟩ = some (.int .i64 cd) := X.cell 1
        have k3 : v1.cell? ⟨g9, 2, none⟩ = some (.int .i64 dn) := X.cell 2
        have k4 : v1.cell? ⟨g9, 3, none⟩ = some (.int .i64 dd) := X.cell 3
        have h9 : g9 < v1.heap.size := X.lt
        go_wp2_with fail
        clear k1 k2 k3 k4 h9 X
        generalize timesN cn cd dn dd = tn at *
        generalize timesD cn cd dn dd = td at *
        generalize timesOk cn cd dn dd = tk at *
        have Y : Blk (v1.alloc (.cells #[.int .i64 tn, .int .i64 td] 31)) v1.heap.size #[.int .i64 tn, .int .i64 td] 31 := Blk.new v1 _ _ rfl
        replace HB := balloc HB (.cells #[.int .i64 tn, .int .i64 td] 31)
        replace R := R.alloc (.cells #[.int .i64 tn, .int .i64 td] 31)
        generalize v1.heap.size = g10 at *
        generalize v1.alloc _ = v2 at *
        refine (rtimes_hid_3.out _).mono ?_
        rintro e v3 ⟨rfl, hb⟩
        replace HB := bthen' HB hb
        replace R := R.below hb
        replace Y := Y.below hb
        clear hb
        have HR := Lib.hid R
        have HH := Lib.hid HB
        clear R HB
        have k1 : v3.cell? ⟨g10, 0, none⟩ = some (.int .i64 tn) := Y.cell 0
        have k2 : v3.cell? ⟨g10, 1, none⟩ = some (.int .i64 td) := Y.cell 1
        have h9 : g10 < v3.heap.size := Y.lt
        have e1 : (tn == tn) = true := by simp
        have e2 : (td == td) = true := by simp
        have e3 : (tk != tk) = false := by simp
        replace HR := Lib.hid (HR.out.alloc (.cells #[.int .i64 tn, .int .i64 td] 31))
        replace HH := Lib.hid (balloc HH.out (.cells #[.int .i64 tn, .int .i64 td] 31))
        go_wp2
        go_roundw
        case rel => exact ⟨4, by simp, rfl, HR, HH⟩
        case measure => simp [intOf]
      · go_wp2
        go_ret
        exact ⟨rfl, HB⟩


end Go.Proofs.Ytkdcbinaglidoaa
