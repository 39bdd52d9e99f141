/- The law ScanMoves. -/
import Derived.Test.YtleljodcdbhifaaDoorBa4
import Derived.Test.YtleljodcdbhifaaDoorScMvP
set_option linter.unusedVariables false
set_option linter.unusedSimpArgs false
namespace Go.Proofs.YtleljodcdbhifaaDoor
open Go.RowKit Go.Proofs.YtleljodcdbhifaaDoorW.PrintWords Go.Proofs.YtleljodcdbhifaaDoorW.PrintLast Go.Proofs.YtleljodcdbhifaaDoorW.PrintMore Hy
attribute [local go_sem ↓] Go.wp_at_zero Go.wp_at_succ
theorem tmod40 (n : Int) : -39 ≤ Int.tmod n 40 ∧ Int.tmod n 40 ≤ 39 := by
  have h1 := Int.tmod_lt_of_pos n (show (0 : Int) < 40 by decide)
  have h2 := Int.tmod_lt_of_pos (-n) (show (0 : Int) < 40 by decide)
  rw [Int.neg_tmod] at h2
  omega
theorem move_bm (b : Bm) (dx dy : Int) (hx : -39 ≤ dx ∧ dx ≤ 39) (hy : -39 ≤ dy ∧ dy ≤ 39) (A : Option Addr) (c : Nat) (hc : b.rows.length ≤ c) (hu : Words b.rows) (hR : b.right = true) (hM : (moveBm b dx dy).right = true) (w : World) (hr : Kd.C (Kd.int .u64) w A b.rows.length b.rows) :
    Calls Tryd.prog 24 #[.agg #[.int .i64 b.L, .int .i64 b.T, .int .i64 b.W, .int .i64 b.H, .slice A b.rows.length c], .int .i64 dx, .int .i64 dy] w fun e w' => ∃ v, e = .returned (.agg #[.int .i64 (moveBm b dx dy).L, .int .i64 (moveBm b dx dy).T, .int .i64 (moveBm b dx dy).W, .int .i64 (moveBm b dx dy).H, v]) ∧ Kd.R (Kd.int .u64) 59 w' w.heap.size (fun _ => True) v (moveBm b dx dy).rows ∧ Below w.heap.size w w' := by
  by_cases hW : b.W = 0
  · have e := right_w0 hR hW
    subst e
    exact move_zero dx dy A c w hr hc
  · have e : moveBm b dx dy = ⟨b.L + dx, b.T + dy, b.W, b.H, b.rows⟩ := by unfold moveBm; rw [if_neg hW]
    have ho := ok_facts (right_ok hR hW)
    rw [e] at hM ⊢
    have ho2 := right_bounds (show rightB (b.L + dx) (b.T + dy) b.W b.H b.rows = true from hM)
    exact move_right b.L b.T b.W b.H dx dy A c b.rows w hr hc hu hR hW (by omega) (by omega) hM (by omega) (by omega) (by omega)
def scMov.T7 : Bool × List (List Nat × List Nat) := (true, [([], []), ([0], [0]), ([1], [1]), ([2, 1], [1, 2]), ([1, 3], [1, 3]), ([4, 1], [4]), ([5], [5]), ([6, 5], [5, 6]), ([5, 7], [5, 7]), ([8, 5], [8]), ([9], [9]), ([9], [9]), ([9], [9]), ([9], [9]), ([11, 12, 13, 9, 9], [9, 11, 12, 13]), ([10, 14, 14, 9], [9, 10, 14]), ([9, 15], [9, 15]), ([16, 15, 0, 1, 2, 3, 4, 5, 6, 7, 8, 9, 10, 11, 12, 13, 14, 15, 16], [16])])
def scMov.B7 : List Nat := [0, 1, 3, 7, 15, 31, 63, 127, 255, 511, 1023, 1023, 1023, 1023, 15359, 32767, 65535, 131071]
theorem scMov.tab7 : rtab .any (opsOf Tryd.f6 7) = scMov.T7 := by kernel_rfl
theorem scMov.bits7 : waitsOk scMov.T7.2 scMov.B7 = true := by kernel_rfl
set_option maxRecDepth 100000 in
set_option maxHeartbeats 40000000 in
theorem scanMoves_walk (A : Option Addr) (c : Nat) (xs : List (List Int)) (ax ay : Int) (w : World) (hT : Tab w) (hC : Kd.C (Kd.slice 3 (Kd.int .i64)) w A xs.length xs) (hc : xs.length ≤ c) (wa : (Lit.int .i64 ax).wf = true) (wb : (Lit.int .i64 ay).wf = true) :
    Calls Tryd.prog 6 #[.slice A xs.length c, .agg #[.int .i64 ax, .int .i64 ay]] w fun e w' => e = .returned (.bool true) ∧ Below w.heap.size w w' := by
  have hu36 := Tryd.underlying36
  obtain ⟨m, hm, hk⟩ := made_f xs
  have HM := Lib.hid hm
  have HK := Lib.hid (hk 100 (by decide))
  have HT := Lib.hid hT
  have HC := Lib.hid hC
  have HL := Lib.hid hc
  clear hT hC hc hm hk wa wb
  go_enter Tryd.func6, Tryd.ntmps6
  go_wp2_with fail
  obtain ⟨w1, g3, hw, hg, B1, HB1, _⟩ := new_box w #[.int .i64 ax, .int .i64 ay] 24
  rw [hw, hg]
  clear hw hg
  refine (sanity_any w1 (HT.out.below HB1.out)).mono ?_
  rintro e w2 ⟨rfl, hb⟩
  have HB2 := Lib.hid (bthen' HB1.out hb)
  have B2 := Lib.hid (B1.out.below hb)
  clear hb HB1 B1
  go_wp2_with fail
  refine (abugidaref11_Made.calls 100 A c xs m w2 (Kd.C_below HC.out HB2.out) HL.out HK.out).mono ?_
  rintro e w3 ⟨vm, rfl, hS, hb⟩
  have HB3 := Lib.hid (bthen' HB2.out hb)
  have B3 := Lib.hid (B2.out.below hb)
  obtain ⟨Am, cm, rfl⟩ := Kd.S_slice hS
  have CM := Lib.hid (Kd.S_reads' hS).2
  clear hb HB2 B2 hS
  have p0 := B3.out.cell 0
  have p1 := B3.out.cell 1
  simp only [List.getElem?_toArray, List.getElem?_cons_zero, List.getElem?_cons_succ] at p0 p1
  have hx := tmod40 ax
  have hy := tmod40 ay
  go_wp2_with fail
  generalize Int.tmod ax 40 = dx at *
  generalize Int.tmod ay 40 = dy at *
  have HX := Lib.hid hx
  have HY := Lib.hid hy
  clear p0 p1 B3 hx hy
  have hml : m.length ≤ 1000000 := by have := HM.out.1; omega
  have hmc : ∀ c ∈ m, c.length ≤ 1000000 := fun c h => by have := (HM.out.2 c h).1; omega
  have HML := Lib.hid hml
  have HMC := Lib.hid hmc
  clear hml hmc
  refine (fill_any Am cm m w3 (HT.out.below HB3.out) CM.out.2 HML.out HMC.out).mono ?_
  rintro e w4 ⟨v, rfl, hR, hb⟩
  have HF := Lib.hid (fill_tr (good_pts HM.out) dx dy HX.out HY.out)
  have HR1 := Lib.hid (fill_right (l := m))
  have HR2 := Lib.hid (fill_right (l := movedB m (64 * dx) (64 * dy)))
  have HRW := Lib.hid (fillB_rows m)
  have HB4 := Lib.hid (bthen' HB3.out hb)
  have CM4 := Lib.hid (Kd.C_below CM.out.2 hb)
  have LM := Lib.hid CM.out.1
  rw [HF.out.1]
  obtain ⟨b, hfb⟩ : ∃ b, (fillB m).1 = b := ⟨_, rfl⟩
  rw [hfb] at hR HF HR1 HRW ⊢
  obtain ⟨⟨bL, bT, bW, bH, br⟩, hbb⟩ : ∃ b', b = b' := ⟨_, rfl⟩
  obtain ⟨q, hq⟩ : ∃ q, moveBm b dx dy = q := ⟨_, rfl⟩
  obtain ⟨⟨mL, mT, mW, mH, mr⟩, hqq⟩ : ∃ q', q = q' := ⟨_, rfl⟩
  rw [HF.out.2, hq] at HR2
  subst hbb
  dsimp only at hR ⊢
  obtain ⟨Av, cv, rfl⟩ := Kd.R_slice hR
  have CV := Lib.hid (Kd.R_reads' hR).2.2
  have LV := Lib.hid (Kd.R_reads' hR).2.1
  have HMV : Hid (∀ (w : World), Kd.C (Kd.int .u64) w Av br.length br → Calls Tryd.prog 24 #[.agg #[.int .i64 bL, .int .i64 bT, .int .i64 bW, .int .i64 bH, .slice Av br.length cv], .int .i64 dx, .int .i64 dy] w fun e w' => ∃ v, e = .returned (.agg #[.int .i64 mL, .int .i64 mT, .int .i64 mW, .int .i64 mH, v]) ∧ Kd.R (Kd.int .u64) 59 w' w.heap.size (fun _ => True) v mr ∧ Below w.heap.size w w') := Lib.hid (fun w h => by
    have h2 := move_bm ⟨bL, bT, bW, bH, br⟩ dx dy HX.out HY.out Av cv LV.out HR1.out.2 HR1.out.1 (by rw [hq]; exact HR2.out.1) w h
    rw [hq, hqq] at h2
    exact h2)
  have HF2 : Hid (fillB (movedB m (64 * dx) (64 * dy)) = (⟨mL, mT, mW, mH, mr⟩, 0)) := Lib.hid (by rw [HF.out.2, hq, hqq])
  have HSS : Hid (abugidaref11_Same.f 0 mL mT mW mH mr mL mT mW mH mr = some true) := Lib.hid (by
    show some (sameB ⟨mL, mT, mW, mH, mr⟩ ⟨mL, mT, mW, mH, mr⟩) = some true
    rw [sameB_refl])
  have HMF := Lib.hid (moved_f m HM.out (64 * dx) (64 * dy) (by have := HX.out; omega) (by have := HY.out; omega))
  have HM2 : Hid ((movedB m (64 * dx) (64 * dy)).length ≤ 1000000 ∧ ∀ c ∈ movedB m (64 * dx) (64 * dy), c.length ≤ 1000000) := Lib.hid ⟨by unfold movedB; rw [List.length_map]; exact HML.out, fun c h => by
    unfold movedB at h
    obtain ⟨c', h', rfl⟩ := List.mem_map.1 h
    rw [List.length_map]; exact HMC.out c' h'⟩
  have e2 : IntKind.i64.wrap (64 * dx) = 64 * dx := IntWalk.i64_in _ (by have := HX.out; omega)
  have e3 : IntKind.i64.wrap (64 * dy) = 64 * dy := IntWalk.i64_in _ (by have := HY.out; omega)
  clear hR hb hfb HB3 CM HF HR1 HR2 HRW hq hqq HX HY HM HML HMC HC HL HK q
  go_wp2_with fail
  obtain ⟨w5, g9, hw, hg, X5, HX5, _⟩ := new_box w4 #[.int .i64 bL, .int .i64 bT, .int .i64 bW, .int .i64 bH, .slice Av br.length cv] 36
  rw [hw, hg]
  have HB5 := Lib.hid (bthen' HB4.out HX5.out)
  have CM5 := Lib.hid (Kd.C_below CM4.out HX5.out)
  have CV5 := Lib.hid (Kd.C_below CV.out HX5.out)
  clear hw hg HB4 CM4 CV HX5
  refine (abugidalaw11_moved.calls 50 Am cm m (64 * dx) (64 * dy) _ w5 CM5.out LM.out HMF.out).mono ?_
  rintro e w6 ⟨vn, rfl, hS, hb⟩
  obtain ⟨Am2, cm2, rfl⟩ := Kd.S_slice hS
  have CN := Lib.hid (Kd.S_reads' hS).2
  have HB6 := Lib.hid (bthen' HB5.out hb)
  have X6 := Lib.hid (X5.out.below hb)
  have CV6 := Lib.hid (Kd.C_below CV5.out hb)
  clear hb hS HB5 X5 CV5 CM5 HMF LM
  go_wp2_with fail
  refine (fill_any Am2 cm2 (movedB m (64 * dx) (64 * dy)) w6 (HT.out.below HB6.out) CN.out.2 HM2.out.1 HM2.out.2).mono ?_
  rintro e w6' ⟨v2, rfl, hR, hb⟩
  rw [HF2.out] at hR ⊢
  dsimp only at hR ⊢
  obtain ⟨A2, c2, rfl⟩ := Kd.R_slice hR
  have C26 := Lib.hid (Kd.R_reads' hR).2.2
  have L2 := Lib.hid (Kd.R_reads' hR).2.1
  have HB6' := Lib.hid (bthen' HB6.out hb)
  have X6' := Lib.hid (X6.out.below hb)
  have CV6' := Lib.hid (Kd.C_below CV6.out hb)
  clear hb hR HB6 X6 CV6 CN HF2 HM2 e2 e3
  go_upto_region 7 with fail
  obtain ⟨w7, g11, hw, hg, Y7, HY7, _⟩ := new_box w6' #[.int .i64 mL, .int .i64 mT, .int .i64 mW, .int .i64 mH, .slice A2 mr.length c2] 36
  rw [hw, hg]
  have HB7 := Lib.hid (bthen' HB6'.out HY7.out)
  have X7 := Lib.hid (X6'.out.below HY7.out)
  have CV7 := Lib.hid (Kd.C_below CV6'.out HY7.out)
  have C27 := Lib.hid (Kd.C_below C26.out HY7.out)
  clear hw hg HB6' X6' CV6' C26 HY7 HT
  refine start_ (n := 18) (S := fun w' => True) (ds := []) #[false, false, false, false, false, false, false, false, false, false, false, false, false, false, false, false, false, false] (by kernel_rfl) rfl rfl trivial (fun hHeld => ?_)
  refine with_tabW scMov.tab7 scMov.bits7 (fun HT_ HW_ => ?_)
  have HB : Aside0 (Below w7.heap.size w7 w7.drew) := ⟨below_drew (Below.refl _ _)⟩
  generalize hwd : w7.drew = w1' at *
  clear hwd
  refine inv_at [0, 1, 2, 3, 4, 5, 6, 7, 8, 9, 10, 11, 12, 13, 14, 15, 16, 17] (fun a0_ b a w' => ∃ (vt : Value) (m14_ : Value), a = putSel a0_ b [(0, 37, .bool true), (1, 38, .bool true), (2, 39, .int .i64 0), (3, 40, .bool true), (4, 41, .bool true), (5, 42, .bool true), (6, 43, .int .i64 0), (7, 44, .bool true), (8, 45, .bool true), (9, 46, .bool true), (10, 47, .agg #[.int .i64 mL, .int .i64 mT, .int .i64 mW, .int .i64 mH, .slice A2 mr.length c2]), (11, 48, .agg #[.int .i64 bL, .int .i64 bT, .int .i64 bW, .int .i64 bH, .slice Av br.length cv]), (12, 49, .int .i64 dx), (13, 50, .int .i64 dy), (14, 51, m14_), (15, 52, .bool true), (16, 53, .bool true), (17, 4, .bool true)] ∧ (Below w7.heap.size w7 w') ∧ (b 14 = true → b 15 = false → Kd.R (Kd.int .u64) 59 w' w7.heap.size (fun _ => True) vt mr) ∧ (b 14 = true → (m14_ : Value) = .agg #[.int .i64 mL, .int .i64 mT, .int .i64 mW, .int .i64 mH, vt])) HT_.out HW_.out (by kernel_rfl) (by kernel_rfl) ?_ ?_ ?_
  · exact ⟨undef, .bool false, by simp only [putSel, Bool.false_eq_true, if_false], HB.out, fun h_ => absurd h_ (by decide), fun h_ => absurd h_ (by decide)⟩
  · skip
    clear HB
    refine steps_cons ?_ ?_
    · rintro b a w' ⟨vt, m14_, ha, Q_HB, Q_RT, Q_X14_⟩ hb_ hon hoff
      refine ⟨_, rfl, fun K hK => ?_⟩
      have e5 : a.tmps[5]? = some (.bool true) := by rw [ha]; exact (putSel_off rfl).trans rfl
      replace ha := Aside0.mk ha
      have HB := Aside0.mk Q_HB
      refine value_ (w1 := w') (v := .bool true) (by rfl) rfl ?_ ?_
      · go_simp
        (try simp only [i64_w])
        try rfl
      refine hK.out _ _ ⟨vt, m14_, (by rw [ha.out]; exact putSel_upk 0 hb_ rfl rfl rfl), Q_HB, fun h0_ _ => absurd ((hoff 14 (by kernel_rfl)).symm.trans h0_) (by decide), fun h0_ => absurd ((hoff 14 (by kernel_rfl)).symm.trans h0_) (by decide)⟩
    refine steps_cons ?_ ?_
    · rintro b a w' ⟨vt, m14_, ha, Q_HB, Q_RT, Q_X14_⟩ hb_ hon hoff
      refine ⟨_, rfl, fun K hK => ?_⟩
      have e37 : a.tmps[37]? = some (.bool true) := by rw [ha]; exact putSel_on (e := (0, 37, .bool true)) 0 rfl rfl (hon 0 (by kernel_rfl)) rfl
      replace ha := Aside0.mk ha
      have HB := Aside0.mk Q_HB
      refine value_ (w1 := w') (v := .bool true) (by rfl) rfl ?_ ?_
      · go_simp
        (try simp only [i64_w])
        try rfl
      refine hK.out _ _ ⟨vt, m14_, (by rw [ha.out]; exact putSel_upk 1 hb_ rfl rfl rfl), Q_HB, fun h0_ _ => absurd ((hoff 14 (by kernel_rfl)).symm.trans h0_) (by decide), fun h0_ => absurd ((hoff 14 (by kernel_rfl)).symm.trans h0_) (by decide)⟩
    refine steps_cons ?_ ?_
    · rintro b a w' ⟨vt, m14_, ha, Q_HB, Q_RT, Q_X14_⟩ hb_ hon hoff
      refine ⟨_, rfl, fun K hK => ?_⟩
      have e10 : a.tmps[10]? = some (.int .i64 0) := by rw [ha]; exact (putSel_off rfl).trans rfl
      have e38 : a.tmps[38]? = some (.bool true) := by rw [ha]; exact putSel_on (e := (1, 38, .bool true)) 1 rfl rfl (hon 1 (by kernel_rfl)) rfl
      replace ha := Aside0.mk ha
      have HB := Aside0.mk Q_HB
      refine value_ (w1 := w') (v := .int .i64 0) (wanted_on rfl rfl rfl (e38.trans (by first | rfl | (simp [*]; done)))) rfl ?_ ?_
      · go_simp
        (try simp only [i64_w])
        try rfl
      refine hK.out _ _ ⟨vt, m14_, (by rw [ha.out]; exact putSel_upk 2 hb_ rfl rfl rfl), Q_HB, fun h0_ _ => absurd ((hoff 14 (by kernel_rfl)).symm.trans h0_) (by decide), fun h0_ => absurd ((hoff 14 (by kernel_rfl)).symm.trans h0_) (by decide)⟩
    refine steps_cons ?_ ?_
    · rintro b a w' ⟨vt, m14_, ha, Q_HB, Q_RT, Q_X14_⟩ hb_ hon hoff
      refine ⟨_, rfl, fun K hK => ?_⟩
      have e39 : a.tmps[39]? = some (.int .i64 0) := by rw [ha]; exact putSel_on (e := (2, 39, .int .i64 0)) 2 rfl rfl (hon 2 (by kernel_rfl)) rfl
      have e38 : a.tmps[38]? = some (.bool true) := by rw [ha]; exact putSel_on (e := (1, 38, .bool true)) 1 rfl rfl (hon 1 (by kernel_rfl)) rfl
      replace ha := Aside0.mk ha
      have HB := Aside0.mk Q_HB
      refine value_ (w1 := w') (v := .bool true) (wanted_on rfl rfl rfl (e38.trans (by first | rfl | (simp [*]; done)))) rfl ?_ ?_
      · go_simp
        (try simp only [i64_w])
        try rfl
      refine hK.out _ _ ⟨vt, m14_, (by rw [ha.out]; exact putSel_upk 3 hb_ rfl rfl rfl), Q_HB, fun h0_ _ => absurd ((hoff 14 (by kernel_rfl)).symm.trans h0_) (by decide), fun h0_ => absurd ((hoff 14 (by kernel_rfl)).symm.trans h0_) (by decide)⟩
    refine steps_cons ?_ ?_
    · rintro b a w' ⟨vt, m14_, ha, Q_HB, Q_RT, Q_X14_⟩ hb_ hon hoff
      refine ⟨_, rfl, fun K hK => ?_⟩
      have e38 : a.tmps[38]? = some (.bool true) := by rw [ha]; exact putSel_on (e := (1, 38, .bool true)) 1 rfl rfl (hon 1 (by kernel_rfl)) rfl
      have e40 : a.tmps[40]? = some (.bool true) := by rw [ha]; exact putSel_on (e := (3, 40, .bool true)) 3 rfl rfl (hon 3 (by kernel_rfl)) rfl
      replace ha := Aside0.mk ha
      have HB := Aside0.mk Q_HB
      refine value_ (w1 := w') (v := .bool true) (by rfl) rfl ?_ ?_
      · go_simp
        (try simp only [i64_w])
        try rfl
      refine hK.out _ _ ⟨vt, m14_, (by rw [ha.out]; exact putSel_upk 4 hb_ rfl rfl rfl), Q_HB, fun h0_ _ => absurd ((hoff 14 (by kernel_rfl)).symm.trans h0_) (by decide), fun h0_ => absurd ((hoff 14 (by kernel_rfl)).symm.trans h0_) (by decide)⟩
    refine steps_cons ?_ ?_
    · rintro b a w' ⟨vt, m14_, ha, Q_HB, Q_RT, Q_X14_⟩ hb_ hon hoff
      refine ⟨_, rfl, fun K hK => ?_⟩
      have e41 : a.tmps[41]? = some (.bool true) := by rw [ha]; exact putSel_on (e := (4, 41, .bool true)) 4 rfl rfl (hon 4 (by kernel_rfl)) rfl
      replace ha := Aside0.mk ha
      have HB := Aside0.mk Q_HB
      refine value_ (w1 := w') (v := .bool true) (by rfl) rfl ?_ ?_
      · go_simp
        (try simp only [i64_w])
        try rfl
      refine hK.out _ _ ⟨vt, m14_, (by rw [ha.out]; exact putSel_upk 5 hb_ rfl rfl rfl), Q_HB, fun h0_ _ => absurd ((hoff 14 (by kernel_rfl)).symm.trans h0_) (by decide), fun h0_ => absurd ((hoff 14 (by kernel_rfl)).symm.trans h0_) (by decide)⟩
    refine steps_cons ?_ ?_
    · rintro b a w' ⟨vt, m14_, ha, Q_HB, Q_RT, Q_X14_⟩ hb_ hon hoff
      refine ⟨_, rfl, fun K hK => ?_⟩
      have e12 : a.tmps[12]? = some (.int .i64 0) := by rw [ha]; exact (putSel_off rfl).trans rfl
      have e42 : a.tmps[42]? = some (.bool true) := by rw [ha]; exact putSel_on (e := (5, 42, .bool true)) 5 rfl rfl (hon 5 (by kernel_rfl)) rfl
      replace ha := Aside0.mk ha
      have HB := Aside0.mk Q_HB
      refine value_ (w1 := w') (v := .int .i64 0) (wanted_on rfl rfl rfl (e42.trans (by first | rfl | (simp [*]; done)))) rfl ?_ ?_
      · go_simp
        (try simp only [i64_w])
        try rfl
      refine hK.out _ _ ⟨vt, m14_, (by rw [ha.out]; exact putSel_upk 6 hb_ rfl rfl rfl), Q_HB, fun h0_ _ => absurd ((hoff 14 (by kernel_rfl)).symm.trans h0_) (by decide), fun h0_ => absurd ((hoff 14 (by kernel_rfl)).symm.trans h0_) (by decide)⟩
    refine steps_cons ?_ ?_
    · rintro b a w' ⟨vt, m14_, ha, Q_HB, Q_RT, Q_X14_⟩ hb_ hon hoff
      refine ⟨_, rfl, fun K hK => ?_⟩
      have e43 : a.tmps[43]? = some (.int .i64 0) := by rw [ha]; exact putSel_on (e := (6, 43, .int .i64 0)) 6 rfl rfl (hon 6 (by kernel_rfl)) rfl
      have e42 : a.tmps[42]? = some (.bool true) := by rw [ha]; exact putSel_on (e := (5, 42, .bool true)) 5 rfl rfl (hon 5 (by kernel_rfl)) rfl
      replace ha := Aside0.mk ha
      have HB := Aside0.mk Q_HB
      refine value_ (w1 := w') (v := .bool true) (wanted_on rfl rfl rfl (e42.trans (by first | rfl | (simp [*]; done)))) rfl ?_ ?_
      · go_simp
        (try simp only [i64_w])
        try rfl
      refine hK.out _ _ ⟨vt, m14_, (by rw [ha.out]; exact putSel_upk 7 hb_ rfl rfl rfl), Q_HB, fun h0_ _ => absurd ((hoff 14 (by kernel_rfl)).symm.trans h0_) (by decide), fun h0_ => absurd ((hoff 14 (by kernel_rfl)).symm.trans h0_) (by decide)⟩
    refine steps_cons ?_ ?_
    · rintro b a w' ⟨vt, m14_, ha, Q_HB, Q_RT, Q_X14_⟩ hb_ hon hoff
      refine ⟨_, rfl, fun K hK => ?_⟩
      have e42 : a.tmps[42]? = some (.bool true) := by rw [ha]; exact putSel_on (e := (5, 42, .bool true)) 5 rfl rfl (hon 5 (by kernel_rfl)) rfl
      have e44 : a.tmps[44]? = some (.bool true) := by rw [ha]; exact putSel_on (e := (7, 44, .bool true)) 7 rfl rfl (hon 7 (by kernel_rfl)) rfl
      replace ha := Aside0.mk ha
      have HB := Aside0.mk Q_HB
      refine value_ (w1 := w') (v := .bool true) (by rfl) rfl ?_ ?_
      · go_simp
        (try simp only [i64_w])
        try rfl
      refine hK.out _ _ ⟨vt, m14_, (by rw [ha.out]; exact putSel_upk 8 hb_ rfl rfl rfl), Q_HB, fun h0_ _ => absurd ((hoff 14 (by kernel_rfl)).symm.trans h0_) (by decide), fun h0_ => absurd ((hoff 14 (by kernel_rfl)).symm.trans h0_) (by decide)⟩
    refine steps_cons ?_ ?_
    · rintro b a w' ⟨vt, m14_, ha, Q_HB, Q_RT, Q_X14_⟩ hb_ hon hoff
      refine ⟨_, rfl, fun K hK => ?_⟩
      have e45 : a.tmps[45]? = some (.bool true) := by rw [ha]; exact putSel_on (e := (8, 45, .bool true)) 8 rfl rfl (hon 8 (by kernel_rfl)) rfl
      replace ha := Aside0.mk ha
      have HB := Aside0.mk Q_HB
      refine value_ (w1 := w') (v := .bool true) (by rfl) rfl ?_ ?_
      · go_simp
        (try simp only [i64_w])
        try rfl
      refine hK.out _ _ ⟨vt, m14_, (by rw [ha.out]; exact putSel_upk 9 hb_ rfl rfl rfl), Q_HB, fun h0_ _ => absurd ((hoff 14 (by kernel_rfl)).symm.trans h0_) (by decide), fun h0_ => absurd ((hoff 14 (by kernel_rfl)).symm.trans h0_) (by decide)⟩
    refine steps_cons ?_ ?_
    · rintro b a w' ⟨vt, m14_, ha, Q_HB, Q_RT, Q_X14_⟩ hb_ hon hoff
      refine ⟨_, rfl, fun K hK => ?_⟩
      have e11 : a.tmps[11]? = some (.pointer (some ⟨g11, 0, none⟩)) := by rw [ha]; exact (putSel_off rfl).trans rfl
      have e46 : a.tmps[46]? = some (.bool true) := by rw [ha]; exact putSel_on (e := (9, 46, .bool true)) 9 rfl rfl (hon 9 (by kernel_rfl)) rfl
      replace ha := Aside0.mk ha
      have HB := Aside0.mk Q_HB
      have q0 : w'.cell? ⟨g11, 0, none⟩ = some (.int .i64 mL) := pw_cell_below HB.out (Y7.out.cell 0)
      have q1 : w'.cell? ⟨g11, 1, none⟩ = some (.int .i64 mT) := pw_cell_below HB.out (Y7.out.cell 1)
      have q2 : w'.cell? ⟨g11, 2, none⟩ = some (.int .i64 mW) := pw_cell_below HB.out (Y7.out.cell 2)
      have q3 : w'.cell? ⟨g11, 3, none⟩ = some (.int .i64 mH) := pw_cell_below HB.out (Y7.out.cell 3)
      have q4 : w'.cell? ⟨g11, 4, none⟩ = some (.slice A2 mr.length c2) := pw_cell_below HB.out (Y7.out.cell 4)
      refine value_ (w1 := w') (v := .agg #[.int .i64 mL, .int .i64 mT, .int .i64 mW, .int .i64 mH, .slice A2 mr.length c2]) (wanted_on rfl rfl rfl (e46.trans (by first | rfl | (simp [*]; done)))) rfl ?_ ?_
      · go_simp
        (try simp only [i64_w])
        try rfl
      refine hK.out _ _ ⟨vt, m14_, (by rw [ha.out]; exact putSel_upk 10 hb_ rfl rfl rfl), Q_HB, Q_RT, Q_X14_⟩
    refine steps_cons ?_ ?_
    · rintro b a w' ⟨vt, m14_, ha, Q_HB, Q_RT, Q_X14_⟩ hb_ hon hoff
      refine ⟨_, rfl, fun K hK => ?_⟩
      have e9 : a.tmps[9]? = some (.pointer (some ⟨g9, 0, none⟩)) := by rw [ha]; exact (putSel_off rfl).trans rfl
      have e46 : a.tmps[46]? = some (.bool true) := by rw [ha]; exact putSel_on (e := (9, 46, .bool true)) 9 rfl rfl (hon 9 (by kernel_rfl)) rfl
      replace ha := Aside0.mk ha
      have HB := Aside0.mk Q_HB
      have q0 : w'.cell? ⟨g9, 0, none⟩ = some (.int .i64 bL) := pw_cell_below HB.out (X7.out.cell 0)
      have q1 : w'.cell? ⟨g9, 1, none⟩ = some (.int .i64 bT) := pw_cell_below HB.out (X7.out.cell 1)
      have q2 : w'.cell? ⟨g9, 2, none⟩ = some (.int .i64 bW) := pw_cell_below HB.out (X7.out.cell 2)
      have q3 : w'.cell? ⟨g9, 3, none⟩ = some (.int .i64 bH) := pw_cell_below HB.out (X7.out.cell 3)
      have q4 : w'.cell? ⟨g9, 4, none⟩ = some (.slice Av br.length cv) := pw_cell_below HB.out (X7.out.cell 4)
      refine value_ (w1 := w') (v := .agg #[.int .i64 bL, .int .i64 bT, .int .i64 bW, .int .i64 bH, .slice Av br.length cv]) (wanted_on rfl rfl rfl (e46.trans (by first | rfl | (simp [*]; done)))) rfl ?_ ?_
      · go_simp
        (try simp only [i64_w])
        try rfl
      refine hK.out _ _ ⟨vt, m14_, (by rw [ha.out]; exact putSel_upk 11 hb_ rfl rfl rfl), Q_HB, fun h0_ _ => absurd ((hoff 14 (by kernel_rfl)).symm.trans h0_) (by decide), fun h0_ => absurd ((hoff 14 (by kernel_rfl)).symm.trans h0_) (by decide)⟩
    refine steps_cons ?_ ?_
    · rintro b a w' ⟨vt, m14_, ha, Q_HB, Q_RT, Q_X14_⟩ hb_ hon hoff
      refine ⟨_, rfl, fun K hK => ?_⟩
      have e7 : a.tmps[7]? = some (.int .i64 dx) := by rw [ha]; exact (putSel_off rfl).trans rfl
      have e46 : a.tmps[46]? = some (.bool true) := by rw [ha]; exact putSel_on (e := (9, 46, .bool true)) 9 rfl rfl (hon 9 (by kernel_rfl)) rfl
      replace ha := Aside0.mk ha
      have HB := Aside0.mk Q_HB
      refine value_ (w1 := w') (v := .int .i64 dx) (wanted_on rfl rfl rfl (e46.trans (by first | rfl | (simp [*]; done)))) rfl ?_ ?_
      · go_simp
        (try simp only [i64_w])
        try rfl
      refine hK.out _ _ ⟨vt, m14_, (by rw [ha.out]; exact putSel_upk 12 hb_ rfl rfl rfl), Q_HB, fun h0_ _ => absurd ((hoff 14 (by kernel_rfl)).symm.trans h0_) (by decide), fun h0_ => absurd ((hoff 14 (by kernel_rfl)).symm.trans h0_) (by decide)⟩
    refine steps_cons ?_ ?_
    · rintro b a w' ⟨vt, m14_, ha, Q_HB, Q_RT, Q_X14_⟩ hb_ hon hoff
      refine ⟨_, rfl, fun K hK => ?_⟩
      have e8 : a.tmps[8]? = some (.int .i64 dy) := by rw [ha]; exact (putSel_off rfl).trans rfl
      have e46 : a.tmps[46]? = some (.bool true) := by rw [ha]; exact putSel_on (e := (9, 46, .bool true)) 9 rfl rfl (hon 9 (by kernel_rfl)) rfl
      replace ha := Aside0.mk ha
      have HB := Aside0.mk Q_HB
      refine value_ (w1 := w') (v := .int .i64 dy) (wanted_on rfl rfl rfl (e46.trans (by first | rfl | (simp [*]; done)))) rfl ?_ ?_
      · go_simp
        (try simp only [i64_w])
        try rfl
      refine hK.out _ _ ⟨vt, m14_, (by rw [ha.out]; exact putSel_upk 13 hb_ rfl rfl rfl), Q_HB, fun h0_ _ => absurd ((hoff 14 (by kernel_rfl)).symm.trans h0_) (by decide), fun h0_ => absurd ((hoff 14 (by kernel_rfl)).symm.trans h0_) (by decide)⟩
    refine steps_cons ?_ ?_
    · rintro b a w' ⟨vt, m14_, ha, Q_HB, Q_RT, Q_X14_⟩ hb_ hon hoff
      refine ⟨_, rfl, fun K hK => ?_⟩
      have e48 : a.tmps[48]? = some (.agg #[.int .i64 bL, .int .i64 bT, .int .i64 bW, .int .i64 bH, .slice Av br.length cv]) := by rw [ha]; exact putSel_on (e := (11, 48, .agg #[.int .i64 bL, .int .i64 bT, .int .i64 bW, .int .i64 bH, .slice Av br.length cv])) 11 rfl rfl (hon 11 (by kernel_rfl)) rfl
      have e49 : a.tmps[49]? = some (.int .i64 dx) := by rw [ha]; exact putSel_on (e := (12, 49, .int .i64 dx)) 12 rfl rfl (hon 12 (by kernel_rfl)) rfl
      have e50 : a.tmps[50]? = some (.int .i64 dy) := by rw [ha]; exact putSel_on (e := (13, 50, .int .i64 dy)) 13 rfl rfl (hon 13 (by kernel_rfl)) rfl
      have e46 : a.tmps[46]? = some (.bool true) := by rw [ha]; exact putSel_on (e := (9, 46, .bool true)) 9 rfl rfl (hon 9 (by kernel_rfl)) rfl
      replace ha := Aside0.mk ha
      have HB := Aside0.mk Q_HB
      refine call_ 24 #[.agg #[.int .i64 bL, .int .i64 bT, .int .i64 bW, .int .i64 bH, .slice Av br.length cv], .int .i64 dx, .int .i64 dy] (wanted_on rfl rfl rfl (e46.trans rfl)) rfl ?_ ?_
      · go_simp
      refine (HMV.out w' (Kd.C_below CV7.out HB.out)).mono ?_
      rintro e w2' ⟨vv, rfl, hR, hb⟩
      refine ⟨_, rfl, ?_⟩
      refine hK.out _ _ ⟨vv, (.agg #[.int .i64 mL, .int .i64 mT, .int .i64 mW, .int .i64 mH, vv]), (by rw [ha.out]; exact putSel_upk 14 hb_ rfl rfl rfl), bthen' HB.out hb, fun _ _ => Kd.R_lower hR HB.out.size, fun _ => rfl⟩
    refine steps_cons ?_ ?_
    · rintro b a w' ⟨vt, m14_, ha, Q_HB, Q_RT, Q_X14_⟩ hb_ hon hoff
      refine ⟨_, rfl, fun K hK => ?_⟩
      have e47 : a.tmps[47]? = some (.agg #[.int .i64 mL, .int .i64 mT, .int .i64 mW, .int .i64 mH, .slice A2 mr.length c2]) := by rw [ha]; exact putSel_on (e := (10, 47, .agg #[.int .i64 mL, .int .i64 mT, .int .i64 mW, .int .i64 mH, .slice A2 mr.length c2])) 10 rfl rfl (hon 10 (by kernel_rfl)) rfl
      have e51 : a.tmps[51]? = some (m14_) := by rw [ha]; exact putSel_on (e := (14, 51, m14_)) 14 rfl rfl (hon 14 (by kernel_rfl)) rfl
      rw [Q_X14_ (hon 14 (by kernel_rfl))] at e51
      have e46 : a.tmps[46]? = some (.bool true) := by rw [ha]; exact putSel_on (e := (9, 46, .bool true)) 9 rfl rfl (hon 9 (by kernel_rfl)) rfl
      replace ha := Aside0.mk ha
      have HB := Aside0.mk Q_HB
      have RT := Aside0.mk (Q_RT (hon 14 (by kernel_rfl)) hb_)
      obtain ⟨A3, c3, rfl⟩ := Kd.R_slice RT.out
      refine call_ 18 #[.agg #[.int .i64 mL, .int .i64 mT, .int .i64 mW, .int .i64 mH, .slice A2 mr.length c2], .agg #[.int .i64 mL, .int .i64 mT, .int .i64 mW, .int .i64 mH, .slice A3 mr.length c3]] (wanted_on rfl rfl rfl (e46.trans rfl)) rfl ?_ ?_
      · go_simp
      refine (abugidaref11_Same.calls 0 mL mT mW mH A2 c2 mr mL mT mW mH A3 c3 mr true w' (Kd.C_below C27.out HB.out) L2.out (Kd.R_reads' RT.out).2.2 (Kd.R_reads' RT.out).2.1 HSS.out).mono ?_
      rintro e w2' ⟨rfl, hb⟩
      refine ⟨_, rfl, ?_⟩
      refine hK.out _ _ ⟨(.slice A3 mr.length c3), m14_, (by rw [ha.out]; exact putSel_upk 15 hb_ rfl rfl rfl), bthen' HB.out hb, fun _ h1_ => absurd ((up_self b 15).symm.trans h1_) (by decide), Q_X14_⟩
    refine steps_cons ?_ ?_
    · rintro b a w' ⟨vt, m14_, ha, Q_HB, Q_RT, Q_X14_⟩ hb_ hon hoff
      refine ⟨_, rfl, fun K hK => ?_⟩
      have e46 : a.tmps[46]? = some (.bool true) := by rw [ha]; exact putSel_on (e := (9, 46, .bool true)) 9 rfl rfl (hon 9 (by kernel_rfl)) rfl
      have e52 : a.tmps[52]? = some (.bool true) := by rw [ha]; exact putSel_on (e := (15, 52, .bool true)) 15 rfl rfl (hon 15 (by kernel_rfl)) rfl
      replace ha := Aside0.mk ha
      have HB := Aside0.mk Q_HB
      refine value_ (w1 := w') (v := .bool true) (by rfl) rfl ?_ ?_
      · go_simp
        (try simp only [i64_w])
        try rfl
      refine hK.out _ _ ⟨vt, m14_, (by rw [ha.out]; exact putSel_upk 16 hb_ rfl rfl rfl), Q_HB, fun _ h1_ => absurd ((hon 15 (by kernel_rfl)).symm.trans h1_) (by decide), Q_X14_⟩
    refine steps_cons ?_ ?_
    · rintro b a w' ⟨vt, m14_, ha, Q_HB, Q_RT, Q_X14_⟩ hb_ hon hoff
      refine ⟨_, rfl, fun K hK => ?_⟩
      have e53 : a.tmps[53]? = some (.bool true) := by rw [ha]; exact putSel_on (e := (16, 53, .bool true)) 16 rfl rfl (hon 16 (by kernel_rfl)) rfl
      replace ha := Aside0.mk ha
      have HB := Aside0.mk Q_HB
      refine value_ (w1 := w') (v := .bool true) (by rfl) rfl ?_ ?_
      · go_simp
        (try simp only [i64_w])
        try rfl
      refine hK.out _ _ ⟨vt, m14_, (by rw [ha.out]; exact putSel_upk 17 hb_ rfl rfl rfl), Q_HB, fun _ h1_ => absurd ((hon 15 (by kernel_rfl)).symm.trans h1_) (by decide), Q_X14_⟩
    exact steps_nil
  · rintro b a w' hall ⟨vt, m14_, ha, Q_HB, Q_RT, Q_X14_⟩
    clear HB
    have hb0_ := hall 0 (by kernel_rfl)
    have hb1_ := hall 1 (by kernel_rfl)
    have hb2_ := hall 2 (by kernel_rfl)
    have hb3_ := hall 3 (by kernel_rfl)
    have hb4_ := hall 4 (by kernel_rfl)
    have hb5_ := hall 5 (by kernel_rfl)
    have hb6_ := hall 6 (by kernel_rfl)
    have hb7_ := hall 7 (by kernel_rfl)
    have hb8_ := hall 8 (by kernel_rfl)
    have hb9_ := hall 9 (by kernel_rfl)
    have hb10_ := hall 10 (by kernel_rfl)
    have hb11_ := hall 11 (by kernel_rfl)
    have hb12_ := hall 12 (by kernel_rfl)
    have hb13_ := hall 13 (by kernel_rfl)
    have hb14_ := hall 14 (by kernel_rfl)
    have hb15_ := hall 15 (by kernel_rfl)
    have hb16_ := hall 16 (by kernel_rfl)
    have hb17_ := hall 17 (by kernel_rfl)
    subst ha
    obtain rfl := Q_X14_ hb14_
    simp only [putSel, hb0_, hb1_, hb2_, hb3_, hb4_, hb5_, hb6_, hb7_, hb8_, hb9_, hb10_, hb11_, hb12_, hb13_, hb14_, hb15_, hb16_, hb17_, if_true, Act.put, List.setIfInBounds_toArray, List.set_cons_zero, List.set_cons_succ]
    have HB := Aside0.mk Q_HB
    clear Q_HB
    clear Q_RT
    clear hall hb0_ hb1_ hb2_ hb3_ hb4_ hb5_ hb6_ hb7_ hb8_ hb9_ hb10_ hb11_ hb12_ hb13_ hb14_ hb15_ hb16_ hb17_
    have HBF := Lib.hid (bthen' HB7.out HB.out)
    go_wp2_with fail
    go_ret
    exact ⟨rfl, HBF.out⟩
end Go.Proofs.YtleljodcdbhifaaDoor
