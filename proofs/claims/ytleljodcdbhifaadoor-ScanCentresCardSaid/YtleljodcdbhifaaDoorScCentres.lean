/- The law ScanCentres. -/
import Derived.Test.YtleljodcdbhifaaDoorBa4
set_option linter.unusedVariables false
set_option linter.unusedSimpArgs false
namespace Go.Proofs.YtleljodcdbhifaaDoor
open Go.RowKit Go.Proofs.YtleljodcdbhifaaDoorW.PrintWords Go.Proofs.YtleljodcdbhifaaDoorW.PrintLast Go.Proofs.YtleljodcdbhifaaDoorW.PrintMore Hy
attribute [local go_sem ↓] Go.wp_at_zero Go.wp_at_succ
theorem tmod18 (n : Int) : -17 ≤ Int.tmod n 18 ∧ Int.tmod n 18 ≤ 17 := by
  have h1 := Int.tmod_lt_of_pos n (show (0 : Int) < 18 by decide)
  have h2 := Int.tmod_lt_of_pos (-n) (show (0 : Int) < 18 by decide)
  rw [Int.neg_tmod] at h2
  omega
theorem good_near {m : List (List S30)} (h : Good m) : nearL m = true := nearL_pts.2 fun p hp => by
  obtain ⟨c, hc, hpc⟩ := pts_mem.1 hp
  have := (h.2 c hc).2 p hpc
  unfold Pt at this
  unfold nearP near12
  omega
theorem good_box {m : List (List S30)} (h : Good m) : X1 (ptsOf m) - X0 (ptsOf m) ≤ 63 ∧ Y1 (ptsOf m) - Y0 (ptsOf m) ≤ 63 ∨ ptsOf m = [] := by
  by_cases h0 : ptsOf m = []
  · exact .inr h0
  left
  have hp : ∀ p ∈ ptsOf m, Pt p := fun p hp => by
    obtain ⟨c, hc, hpc⟩ := pts_mem.1 hp
    exact (h.2 c hc).2 p hpc
  obtain ⟨q, hq⟩ := List.exists_mem_of_ne_nil _ h0
  have b (f : S30 → Int) (hf : ∀ p ∈ ptsOf m, -999 ≤ f p ∧ f p ≤ 999) : -999 ≤ minF 4096 ((ptsOf m).map f) ∧ maxF (-4096) ((ptsOf m).map f) ≤ 999 := by
    constructor
    · rcases minF_in ((ptsOf m).map f) 4096 with e | e
      · omega
      · obtain ⟨p, hp, e⟩ := List.mem_map.1 e
        have := hf p hp
        omega
    · rcases maxF_in ((ptsOf m).map f) (-4096) with e | e
      · omega
      · obtain ⟨p, hp, e⟩ := List.mem_map.1 e
        have := hf p hp
        omega
  have b0 := b (·.f0) fun p hpm => (hp p hpm).1
  have b1 := b (·.f1) fun p hpm => (hp p hpm).2
  unfold X1 X0 Y1 Y0
  omega
def Pin (m : List (List S30)) (x y : Int) : Bool := decide (wind (allP m) x y ≠ 0)
theorem good_pix {m : List (List S30)} (h : Good m) (x y : Int) : (fillB m).2 = 0 ∧ getB (fillB m).1 x y = Pin m (64 * x + 32) (64 * y + 32) := by
  rcases good_box h with hb | h0
  · exact fill_pix (good_near h) hb.1 hb.2 x y
  · refine fill_pix (good_near h) ?_ ?_ x y <;> rw [h0] <;> decide
theorem inside_f {m : List (List S30)} (h1 : m.length ≤ 1000000) (h2 : ∀ c ∈ m, c.length ≤ 1000000) (hn : nearL m = true) (x y : Int) (hx : near12 x) (hy : near12 y) (hml : m.length ≤ 100000) : scan_Inside.f ((allP m).length + 1) m x y = some (Pin m x y) := by
  have hle := allP_le m h2
  have e0 : scan_all.f m = some (allP m, true) := by
    unfold scan_all.f
    rw [if_pos ⟨h1, h2⟩]
    unfold allR
    rw [hn]; rfl
  unfold near12 at hx hy
  have ex : ∀ z : Int, -4096 ≤ z ∧ z ≤ 4096 → scan_near.f z = some true := fun z hz => by
    unfold scan_near.f
    rw [if_pos hz.1, decide_eq_true hz.2]
  have hw := wind_f (allP m) (allP_near hn) (by omega) x y (by omega) (by omega)
  unfold scan_Inside.f
  rw [e0, Option.bind_some, if_pos rfl, ex x hx, Option.bind_some, if_pos rfl, ex y hy, Option.bind_some, if_pos rfl, hw, Option.bind_some]
  congr 1
  unfold Pin
  by_cases h : wind (allP m) x y = 0
  · rw [h]; rfl
  · rw [decide_eq_true h]
    simpa using h
def scCen.T4 : Bool × List (List Nat × List Nat) := (true, [([], []), ([0], [0]), ([1], [1]), ([2], [2]), ([3, 2, 2], [2, 3]), ([4, 2], [2, 4]), ([2, 5], [2, 5]), ([6, 4], [6]), ([7], [7]), ([8, 7, 7], [7, 8]), ([7], [7]), ([9, 10, 9, 7], [7, 9, 10]), ([11, 7], [7, 11]), ([7, 12], [7, 12])])
def scCen.B4 : List Nat := [0, 1, 3, 7, 15, 31, 63, 127, 255, 511, 255, 2047, 4095, 8191]
theorem scCen.tab4 : rtab .any (opsOf Tryd.f5 4) = scCen.T4 := by kernel_rfl
theorem scCen.bits4 : waitsOk scCen.T4.2 scCen.B4 = true := by kernel_rfl
set_option maxRecDepth 100000 in
set_option maxHeartbeats 40000000 in
theorem scanCentres_walk (A : Option Addr) (c : Nat) (xs : List (List Int)) (ax ay : Int) (w : World) (hT : Tab w) (hC : Kd.C (Kd.slice 3 (Kd.int .i64)) w A xs.length xs) (hc : xs.length ≤ c) (wa : (Lit.int .i64 ax).wf = true) (wb : (Lit.int .i64 ay).wf = true) :
    Calls Tryd.prog 5 #[.slice A xs.length c, .agg #[.int .i64 ax, .int .i64 ay]] w fun e w' => e = .returned (.bool true) ∧ Below w.heap.size w w' := by
  have hu36 := Tryd.underlying36
  obtain ⟨m, hm, hk⟩ := made_f xs
  have HM := Lib.hid hm
  have HK := Lib.hid (hk 100 (by decide))
  have HT := Lib.hid hT
  have HC := Lib.hid hC
  have HL := Lib.hid hc
  clear hT hC hc hm hk wa wb
  go_enter Tryd.func5, Tryd.ntmps5
  go_wp2_with fail
  obtain ⟨w1, g3, hw, hg, B1, HB1, _⟩ := new_box w #[.int .i64 ax, .int .i64 ay] 24
  rw [hw, hg]
  clear hw hg
  refine (sanity_any w1 (HT.out.below HB1.out)).mono ?_
  rintro e w2 ⟨rfl, hb⟩
  have HB2 := Lib.hid (bthen' HB1.out hb)
  have B2 := Lib.hid (B1.out.below hb)
  clear hb HB1 B1
  go_wp2_with fail
  refine (abugidaref11_Made.calls 100 A c xs m w2 (Kd.C_below HC.out HB2.out) HL.out HK.out).mono ?_
  rintro e w3 ⟨vm, rfl, hS, hb⟩
  have HB3 := Lib.hid (bthen' HB2.out hb)
  have B3 := Lib.hid (B2.out.below hb)
  obtain ⟨Am, cm, rfl⟩ := Kd.S_slice hS
  have CM := Lib.hid (Kd.S_reads' hS).2
  clear hb HB2 B2 hS
  go_wp2_with fail
  have hml : m.length ≤ 1000000 := by have := HM.out.1; omega
  have hmc : ∀ c ∈ m, c.length ≤ 1000000 := fun c h => by have := (HM.out.2 c h).1; omega
  have HML := Lib.hid hml
  have HMC := Lib.hid hmc
  clear hml hmc
  refine (fill_any Am cm m w3 (HT.out.below HB3.out) CM.out.2 HML.out HMC.out).mono ?_
  rintro e w4 ⟨v, rfl, hR, hb⟩
  have HPX := Lib.hid (fun x y => (good_pix HM.out x y).2)
  have HE : (fillB m).2 = 0 := (good_pix HM.out 0 0).1
  have HRT := Lib.hid (fill_right (l := m))
  have HTM := Lib.hid (fill_trim (l := m))
  have HRW := Lib.hid (fillB_rows m)
  have HB4 := Lib.hid (bthen' HB3.out hb)
  have B4 := Lib.hid (B3.out.below hb)
  have CM4 := Lib.hid (Kd.C_below CM.out.2 hb)
  have LM := Lib.hid CM.out.1
  rw [HE]
  clear HE
  obtain ⟨⟨bL, bT, bW, bH, br⟩, hfb⟩ : ∃ b, (fillB m).1 = b := ⟨_, rfl⟩
  rw [hfb] at hR HPX HRT HTM HRW
  rw [hfb]
  dsimp only at hR HPX HRT HTM HRW ⊢
  obtain ⟨Av, cv, rfl⟩ := Kd.R_slice hR
  have CV := Lib.hid (Kd.R_reads' hR).2.2
  have LV := Lib.hid (Kd.R_reads' hR).2.1
  clear hR hb hfb HB3 B3 CM
  go_wp2_with fail
  obtain ⟨w5, g7, hw, hg, B5, HB45, _⟩ := new_box w4 #[.int .i64 bL, .int .i64 bT, .int .i64 bW, .int .i64 bH, .slice Av br.length cv] 36
  rw [hw, hg]
  clear hw hg
  have HB5 := Lib.hid (bthen' HB4.out HB45.out)
  have B35 := Lib.hid (B4.out.below HB45.out)
  have CM5 := Lib.hid (Kd.C_below CM4.out HB45.out)
  have CV5 := Lib.hid (Kd.C_below CV.out HB45.out)
  have HT5 := Lib.hid (HT.out.below HB5.out)
  clear HB4 HB45 B4 CM4 CV HT HC HL HK
  have HF1 : Hid (Hy.scan_Right.f bL bT bW bH br = some true) := Lib.hid (by
    have h1 := HRT.out.1
    unfold Bm.right at h1
    rw [Hy.scan_Right.f, if_pos (show ∀ r ∈ br, u64 r from HRT.out.2)]
    exact congrArg some h1)
  have HU := Lib.hid HRT.out.2
  have HTR : Hid (trimB ⟨bL, bT, bW, bH, br⟩ = ⟨bL, bT, bW, bH, br⟩) := HTM
  have HSS : Hid (scan_Same.f (br.length + 1) bL bT bW bH br bL bT bW bH br = some true) := Lib.hid (by
    rw [scan_same _ _ _ _ _ _ _ _ _ _ (by have := HRW.out; omega), sameB_refl])
  refine start_ (n := 14) (S := fun w' => True) (ds := []) #[false, false, false, false, false, false, false, false, false, false, false, false, false, false] (by kernel_rfl) rfl rfl trivial (fun hHeld => ?_)
  refine with_tabW scCen.tab4 scCen.bits4 (fun HT_ HW_ => ?_)
  have HB : Aside0 (Below w5.heap.size w5 w5.drew) := ⟨below_drew (Below.refl _ _)⟩
  generalize hwd : w5.drew = w1' at *
  clear hwd
  refine inv_at [0, 1, 2, 3, 4, 5, 6, 7, 8, 9, 10, 11, 12, 13] (fun a0_ b a w' => ∃ (vt : Value) (m9_ : Value), a = putSel a0_ b [(0, 20, .int .i64 0), (1, 21, .bool false), (2, 22, .bool false), (3, 23, .agg #[.int .i64 bL, .int .i64 bT, .int .i64 bW, .int .i64 bH, .slice Av br.length cv]), (4, 24, .bool true), (5, 25, .bool false), (6, 26, .bool false), (7, 27, .bool false), (8, 28, .agg #[.int .i64 bL, .int .i64 bT, .int .i64 bW, .int .i64 bH, .slice Av br.length cv]), (9, 29, m9_), (10, 30, .agg #[.int .i64 bL, .int .i64 bT, .int .i64 bW, .int .i64 bH, .slice Av br.length cv]), (11, 31, .bool true), (12, 32, .bool false), (13, 33, .bool false)] ∧ (Below w5.heap.size w5 w') ∧ (b 9 = true → b 11 = false → Kd.R (Kd.int .u64) 59 w' w5.heap.size (fun _ => True) vt br) ∧ (b 9 = true → (m9_ : Value) = .agg #[.int .i64 bL, .int .i64 bT, .int .i64 bW, .int .i64 bH, vt])) HT_.out HW_.out (by kernel_rfl) (by kernel_rfl) ?_ ?_ ?_
  · exact ⟨undef, .bool false, by simp only [putSel, Bool.false_eq_true, if_false], HB.out, fun h_ => absurd h_ (by decide), fun h_ => absurd h_ (by decide)⟩
  · skip
    clear HB
    refine steps_cons ?_ ?_
    · rintro b a w' ⟨vt, m9_, ha, Q_HB, Q_RT, Q_X9_⟩ hb_ hon hoff
      refine ⟨_, rfl, fun K hK => ?_⟩
      have e8 : a.tmps[8]? = some (.int .i64 0) := by rw [ha]; exact (putSel_off rfl).trans rfl
      replace ha := Aside0.mk ha
      have HB := Aside0.mk Q_HB
      refine value_ (w1 := w') (v := .int .i64 0) (by rfl) rfl ?_ ?_
      · go_simp
        (try simp only [i64_w])
        try rfl
      refine hK.out _ _ ⟨vt, m9_, (by rw [ha.out]; exact putSel_upk 0 hb_ rfl rfl rfl), Q_HB, fun h0_ _ => absurd ((hoff 9 (by kernel_rfl)).symm.trans h0_) (by decide), fun h0_ => absurd ((hoff 9 (by kernel_rfl)).symm.trans h0_) (by decide)⟩
    refine steps_cons ?_ ?_
    · rintro b a w' ⟨vt, m9_, ha, Q_HB, Q_RT, Q_X9_⟩ hb_ hon hoff
      refine ⟨_, rfl, fun K hK => ?_⟩
      have e20 : a.tmps[20]? = some (.int .i64 0) := by rw [ha]; exact putSel_on (e := (0, 20, .int .i64 0)) 0 rfl rfl (hon 0 (by kernel_rfl)) rfl
      replace ha := Aside0.mk ha
      have HB := Aside0.mk Q_HB
      refine value_ (w1 := w') (v := .bool false) (by rfl) rfl ?_ ?_
      · go_simp
        (try simp only [i64_w])
        try rfl
      refine hK.out _ _ ⟨vt, m9_, (by rw [ha.out]; exact putSel_upk 1 hb_ rfl rfl rfl), Q_HB, fun h0_ _ => absurd ((hoff 9 (by kernel_rfl)).symm.trans h0_) (by decide), fun h0_ => absurd ((hoff 9 (by kernel_rfl)).symm.trans h0_) (by decide)⟩
    refine steps_cons ?_ ?_
    · rintro b a w' ⟨vt, m9_, ha, Q_HB, Q_RT, Q_X9_⟩ hb_ hon hoff
      refine ⟨_, rfl, fun K hK => ?_⟩
      have e21 : a.tmps[21]? = some (.bool false) := by rw [ha]; exact putSel_on (e := (1, 21, .bool false)) 1 rfl rfl (hon 1 (by kernel_rfl)) rfl
      replace ha := Aside0.mk ha
      have HB := Aside0.mk Q_HB
      refine value_ (w1 := w') (v := .bool false) (by rfl) rfl ?_ ?_
      · go_simp
        (try simp only [i64_w])
        try rfl
      refine hK.out _ _ ⟨vt, m9_, (by rw [ha.out]; exact putSel_upk 2 hb_ rfl rfl rfl), Q_HB, fun h0_ _ => absurd ((hoff 9 (by kernel_rfl)).symm.trans h0_) (by decide), fun h0_ => absurd ((hoff 9 (by kernel_rfl)).symm.trans h0_) (by decide)⟩
    refine steps_cons ?_ ?_
    · rintro b a w' ⟨vt, m9_, ha, Q_HB, Q_RT, Q_X9_⟩ hb_ hon hoff
      refine ⟨_, rfl, fun K hK => ?_⟩
      have e7 : a.tmps[7]? = some (.pointer (some ⟨g7, 0, none⟩)) := by rw [ha]; exact (putSel_off rfl).trans rfl
      have e22 : a.tmps[22]? = some (.bool false) := by rw [ha]; exact putSel_on (e := (2, 22, .bool false)) 2 rfl rfl (hon 2 (by kernel_rfl)) rfl
      replace ha := Aside0.mk ha
      have HB := Aside0.mk Q_HB
      have q0 : w'.cell? ⟨g7, 0, none⟩ = some (.int .i64 bL) := pw_cell_below HB.out (B5.out.cell 0)
      have q1 : w'.cell? ⟨g7, 1, none⟩ = some (.int .i64 bT) := pw_cell_below HB.out (B5.out.cell 1)
      have q2 : w'.cell? ⟨g7, 2, none⟩ = some (.int .i64 bW) := pw_cell_below HB.out (B5.out.cell 2)
      have q3 : w'.cell? ⟨g7, 3, none⟩ = some (.int .i64 bH) := pw_cell_below HB.out (B5.out.cell 3)
      have q4 : w'.cell? ⟨g7, 4, none⟩ = some (.slice Av br.length cv) := pw_cell_below HB.out (B5.out.cell 4)
      refine value_ (w1 := w') (v := .agg #[.int .i64 bL, .int .i64 bT, .int .i64 bW, .int .i64 bH, .slice Av br.length cv]) (wanted_on rfl rfl rfl (e22.trans (by first | rfl | (simp [*]; done)))) rfl ?_ ?_
      · go_simp
        (try simp only [i64_w])
        try rfl
      refine hK.out _ _ ⟨vt, m9_, (by rw [ha.out]; exact putSel_upk 3 hb_ rfl rfl rfl), Q_HB, fun h0_ _ => absurd ((hoff 9 (by kernel_rfl)).symm.trans h0_) (by decide), fun h0_ => absurd ((hoff 9 (by kernel_rfl)).symm.trans h0_) (by decide)⟩
    refine steps_cons ?_ ?_
    · rintro b a w' ⟨vt, m9_, ha, Q_HB, Q_RT, Q_X9_⟩ hb_ hon hoff
      refine ⟨_, rfl, fun K hK => ?_⟩
      have e23 : a.tmps[23]? = some (.agg #[.int .i64 bL, .int .i64 bT, .int .i64 bW, .int .i64 bH, .slice Av br.length cv]) := by rw [ha]; exact putSel_on (e := (3, 23, .agg #[.int .i64 bL, .int .i64 bT, .int .i64 bW, .int .i64 bH, .slice Av br.length cv])) 3 rfl rfl (hon 3 (by kernel_rfl)) rfl
      have e22 : a.tmps[22]? = some (.bool false) := by rw [ha]; exact putSel_on (e := (2, 22, .bool false)) 2 rfl rfl (hon 2 (by kernel_rfl)) rfl
      replace ha := Aside0.mk ha
      have HB := Aside0.mk Q_HB
      refine call_ 19 #[.agg #[.int .i64 bL, .int .i64 bT, .int .i64 bW, .int .i64 bH, .slice Av br.length cv]] (wanted_on rfl rfl rfl (e22.trans rfl)) rfl ?_ ?_
      · go_simp
      refine (Hy.scan_Right.calls bL bT bW bH Av cv br true w' (Kd.C_below CV5.out HB.out) LV.out HF1.out).mono ?_
      rintro e w2' ⟨rfl, hb⟩
      refine ⟨_, rfl, ?_⟩
      refine hK.out _ _ ⟨vt, m9_, (by rw [ha.out]; exact putSel_upk 4 hb_ rfl rfl rfl), bthen' HB.out hb, fun h0_ _ => absurd ((hoff 9 (by kernel_rfl)).symm.trans h0_) (by decide), fun h0_ => absurd ((hoff 9 (by kernel_rfl)).symm.trans h0_) (by decide)⟩
    refine steps_cons ?_ ?_
    · rintro b a w' ⟨vt, m9_, ha, Q_HB, Q_RT, Q_X9_⟩ hb_ hon hoff
      refine ⟨_, rfl, fun K hK => ?_⟩
      have e24 : a.tmps[24]? = some (.bool true) := by rw [ha]; exact putSel_on (e := (4, 24, .bool true)) 4 rfl rfl (hon 4 (by kernel_rfl)) rfl
      have e22 : a.tmps[22]? = some (.bool false) := by rw [ha]; exact putSel_on (e := (2, 22, .bool false)) 2 rfl rfl (hon 2 (by kernel_rfl)) rfl
      replace ha := Aside0.mk ha
      have HB := Aside0.mk Q_HB
      refine value_ (w1 := w') (v := .bool false) (wanted_on rfl rfl rfl (e22.trans (by first | rfl | (simp [*]; done)))) rfl ?_ ?_
      · go_simp
        (try simp only [i64_w])
        try rfl
      refine hK.out _ _ ⟨vt, m9_, (by rw [ha.out]; exact putSel_upk 5 hb_ rfl rfl rfl), Q_HB, fun h0_ _ => absurd ((hoff 9 (by kernel_rfl)).symm.trans h0_) (by decide), fun h0_ => absurd ((hoff 9 (by kernel_rfl)).symm.trans h0_) (by decide)⟩
    refine steps_cons ?_ ?_
    · rintro b a w' ⟨vt, m9_, ha, Q_HB, Q_RT, Q_X9_⟩ hb_ hon hoff
      refine ⟨_, rfl, fun K hK => ?_⟩
      have e22 : a.tmps[22]? = some (.bool false) := by rw [ha]; exact putSel_on (e := (2, 22, .bool false)) 2 rfl rfl (hon 2 (by kernel_rfl)) rfl
      have e25 : a.tmps[25]? = some (.bool false) := by rw [ha]; exact putSel_on (e := (5, 25, .bool false)) 5 rfl rfl (hon 5 (by kernel_rfl)) rfl
      replace ha := Aside0.mk ha
      have HB := Aside0.mk Q_HB
      refine value_ (w1 := w') (v := .bool false) (by rfl) rfl ?_ ?_
      · go_simp
        (try simp only [i64_w])
        try rfl
      refine hK.out _ _ ⟨vt, m9_, (by rw [ha.out]; exact putSel_upk 6 hb_ rfl rfl rfl), Q_HB, fun h0_ _ => absurd ((hoff 9 (by kernel_rfl)).symm.trans h0_) (by decide), fun h0_ => absurd ((hoff 9 (by kernel_rfl)).symm.trans h0_) (by decide)⟩
    refine steps_cons ?_ ?_
    · rintro b a w' ⟨vt, m9_, ha, Q_HB, Q_RT, Q_X9_⟩ hb_ hon hoff
      refine ⟨_, rfl, fun K hK => ?_⟩
      have e26 : a.tmps[26]? = some (.bool false) := by rw [ha]; exact putSel_on (e := (6, 26, .bool false)) 6 rfl rfl (hon 6 (by kernel_rfl)) rfl
      replace ha := Aside0.mk ha
      have HB := Aside0.mk Q_HB
      refine value_ (w1 := w') (v := .bool false) (by rfl) rfl ?_ ?_
      · go_simp
        (try simp only [i64_w])
        try rfl
      refine hK.out _ _ ⟨vt, m9_, (by rw [ha.out]; exact putSel_upk 7 hb_ rfl rfl rfl), Q_HB, fun h0_ _ => absurd ((hoff 9 (by kernel_rfl)).symm.trans h0_) (by decide), fun h0_ => absurd ((hoff 9 (by kernel_rfl)).symm.trans h0_) (by decide)⟩
    refine steps_cons ?_ ?_
    · rintro b a w' ⟨vt, m9_, ha, Q_HB, Q_RT, Q_X9_⟩ hb_ hon hoff
      refine ⟨_, rfl, fun K hK => ?_⟩
      have e7 : a.tmps[7]? = some (.pointer (some ⟨g7, 0, none⟩)) := by rw [ha]; exact (putSel_off rfl).trans rfl
      have e27 : a.tmps[27]? = some (.bool false) := by rw [ha]; exact putSel_on (e := (7, 27, .bool false)) 7 rfl rfl (hon 7 (by kernel_rfl)) rfl
      replace ha := Aside0.mk ha
      have HB := Aside0.mk Q_HB
      have q0 : w'.cell? ⟨g7, 0, none⟩ = some (.int .i64 bL) := pw_cell_below HB.out (B5.out.cell 0)
      have q1 : w'.cell? ⟨g7, 1, none⟩ = some (.int .i64 bT) := pw_cell_below HB.out (B5.out.cell 1)
      have q2 : w'.cell? ⟨g7, 2, none⟩ = some (.int .i64 bW) := pw_cell_below HB.out (B5.out.cell 2)
      have q3 : w'.cell? ⟨g7, 3, none⟩ = some (.int .i64 bH) := pw_cell_below HB.out (B5.out.cell 3)
      have q4 : w'.cell? ⟨g7, 4, none⟩ = some (.slice Av br.length cv) := pw_cell_below HB.out (B5.out.cell 4)
      refine value_ (w1 := w') (v := .agg #[.int .i64 bL, .int .i64 bT, .int .i64 bW, .int .i64 bH, .slice Av br.length cv]) (wanted_on rfl rfl rfl (e27.trans (by first | rfl | (simp [*]; done)))) rfl ?_ ?_
      · go_simp
        (try simp only [i64_w])
        try rfl
      refine hK.out _ _ ⟨vt, m9_, (by rw [ha.out]; exact putSel_upk 8 hb_ rfl rfl rfl), Q_HB, fun h0_ _ => absurd ((hoff 9 (by kernel_rfl)).symm.trans h0_) (by decide), fun h0_ => absurd ((hoff 9 (by kernel_rfl)).symm.trans h0_) (by decide)⟩
    refine steps_cons ?_ ?_
    · rintro b a w' ⟨vt, m9_, ha, Q_HB, Q_RT, Q_X9_⟩ hb_ hon hoff
      refine ⟨_, rfl, fun K hK => ?_⟩
      have e28 : a.tmps[28]? = some (.agg #[.int .i64 bL, .int .i64 bT, .int .i64 bW, .int .i64 bH, .slice Av br.length cv]) := by rw [ha]; exact putSel_on (e := (8, 28, .agg #[.int .i64 bL, .int .i64 bT, .int .i64 bW, .int .i64 bH, .slice Av br.length cv])) 8 rfl rfl (hon 8 (by kernel_rfl)) rfl
      have e27 : a.tmps[27]? = some (.bool false) := by rw [ha]; exact putSel_on (e := (7, 27, .bool false)) 7 rfl rfl (hon 7 (by kernel_rfl)) rfl
      replace ha := Aside0.mk ha
      have HB := Aside0.mk Q_HB
      refine call_ 21 #[.agg #[.int .i64 bL, .int .i64 bT, .int .i64 bW, .int .i64 bH, .slice Av br.length cv]] (wanted_on rfl rfl rfl (e27.trans rfl)) rfl ?_ ?_
      · go_simp
      refine (trim_any bL bT bW bH Av cv br w' (HT5.out.below HB.out) (Kd.C_below CV5.out HB.out) LV.out HU.out).mono ?_
      rintro e w2' ⟨vv, rfl, hR, hb⟩
      rw [HTR.out] at hR ⊢
      refine ⟨_, rfl, ?_⟩
      refine hK.out _ _ ⟨vv, (.agg #[.int .i64 bL, .int .i64 bT, .int .i64 bW, .int .i64 bH, vv]), (by rw [ha.out]; exact putSel_upk 9 hb_ rfl rfl rfl), bthen' HB.out hb, fun _ _ => Kd.R_lower hR HB.out.size, fun _ => rfl⟩
    refine steps_cons ?_ ?_
    · rintro b a w' ⟨vt, m9_, ha, Q_HB, Q_RT, Q_X9_⟩ hb_ hon hoff
      refine ⟨_, rfl, fun K hK => ?_⟩
      have e7 : a.tmps[7]? = some (.pointer (some ⟨g7, 0, none⟩)) := by rw [ha]; exact (putSel_off rfl).trans rfl
      have e27 : a.tmps[27]? = some (.bool false) := by rw [ha]; exact putSel_on (e := (7, 27, .bool false)) 7 rfl rfl (hon 7 (by kernel_rfl)) rfl
      replace ha := Aside0.mk ha
      have HB := Aside0.mk Q_HB
      have q0 : w'.cell? ⟨g7, 0, none⟩ = some (.int .i64 bL) := pw_cell_below HB.out (B5.out.cell 0)
      have q1 : w'.cell? ⟨g7, 1, none⟩ = some (.int .i64 bT) := pw_cell_below HB.out (B5.out.cell 1)
      have q2 : w'.cell? ⟨g7, 2, none⟩ = some (.int .i64 bW) := pw_cell_below HB.out (B5.out.cell 2)
      have q3 : w'.cell? ⟨g7, 3, none⟩ = some (.int .i64 bH) := pw_cell_below HB.out (B5.out.cell 3)
      have q4 : w'.cell? ⟨g7, 4, none⟩ = some (.slice Av br.length cv) := pw_cell_below HB.out (B5.out.cell 4)
      refine value_ (w1 := w') (v := .agg #[.int .i64 bL, .int .i64 bT, .int .i64 bW, .int .i64 bH, .slice Av br.length cv]) (wanted_on rfl rfl rfl (e27.trans (by first | rfl | (simp [*]; done)))) rfl ?_ ?_
      · go_simp
        (try simp only [i64_w])
        try rfl
      refine hK.out _ _ ⟨vt, m9_, (by rw [ha.out]; exact putSel_upk 10 hb_ rfl rfl rfl), Q_HB, Q_RT, Q_X9_⟩
    refine steps_cons ?_ ?_
    · rintro b a w' ⟨vt, m9_, ha, Q_HB, Q_RT, Q_X9_⟩ hb_ hon hoff
      refine ⟨_, rfl, fun K hK => ?_⟩
      have e29 : a.tmps[29]? = some (m9_) := by rw [ha]; exact putSel_on (e := (9, 29, m9_)) 9 rfl rfl (hon 9 (by kernel_rfl)) rfl
      rw [Q_X9_ (hon 9 (by kernel_rfl))] at e29
      have e30 : a.tmps[30]? = some (.agg #[.int .i64 bL, .int .i64 bT, .int .i64 bW, .int .i64 bH, .slice Av br.length cv]) := by rw [ha]; exact putSel_on (e := (10, 30, .agg #[.int .i64 bL, .int .i64 bT, .int .i64 bW, .int .i64 bH, .slice Av br.length cv])) 10 rfl rfl (hon 10 (by kernel_rfl)) rfl
      have e27 : a.tmps[27]? = some (.bool false) := by rw [ha]; exact putSel_on (e := (7, 27, .bool false)) 7 rfl rfl (hon 7 (by kernel_rfl)) rfl
      replace ha := Aside0.mk ha
      have HB := Aside0.mk Q_HB
      have RT := Aside0.mk (Q_RT (hon 9 (by kernel_rfl)) hb_)
      obtain ⟨A2, c2, rfl⟩ := Kd.R_slice RT.out
      refine call_ 20 #[.agg #[.int .i64 bL, .int .i64 bT, .int .i64 bW, .int .i64 bH, .slice A2 br.length c2], .agg #[.int .i64 bL, .int .i64 bT, .int .i64 bW, .int .i64 bH, .slice Av br.length cv]] (wanted_on rfl rfl rfl (e27.trans rfl)) rfl ?_ ?_
      · go_simp
      refine (scan_Same.calls (br.length + 1) bL bT bW bH A2 c2 br bL bT bW bH Av cv br true w' (Kd.R_reads' RT.out).2.2 (Kd.R_reads' RT.out).2.1 (Kd.C_below CV5.out HB.out) LV.out HSS.out).mono ?_
      rintro e w2' ⟨rfl, hb⟩
      refine ⟨_, rfl, ?_⟩
      refine hK.out _ _ ⟨(.slice A2 br.length c2), m9_, (by rw [ha.out]; exact putSel_upk 11 hb_ rfl rfl rfl), bthen' HB.out hb, fun _ h1_ => absurd ((up_self b 11).symm.trans h1_) (by decide), Q_X9_⟩
    refine steps_cons ?_ ?_
    · rintro b a w' ⟨vt, m9_, ha, Q_HB, Q_RT, Q_X9_⟩ hb_ hon hoff
      refine ⟨_, rfl, fun K hK => ?_⟩
      have e31 : a.tmps[31]? = some (.bool true) := by rw [ha]; exact putSel_on (e := (11, 31, .bool true)) 11 rfl rfl (hon 11 (by kernel_rfl)) rfl
      have e27 : a.tmps[27]? = some (.bool false) := by rw [ha]; exact putSel_on (e := (7, 27, .bool false)) 7 rfl rfl (hon 7 (by kernel_rfl)) rfl
      replace ha := Aside0.mk ha
      have HB := Aside0.mk Q_HB
      refine value_ (w1 := w') (v := .bool false) (wanted_on rfl rfl rfl (e27.trans (by first | rfl | (simp [*]; done)))) rfl ?_ ?_
      · go_simp
        (try simp only [i64_w])
        try rfl
      refine hK.out _ _ ⟨vt, m9_, (by rw [ha.out]; exact putSel_upk 12 hb_ rfl rfl rfl), Q_HB, fun _ h1_ => absurd ((hon 11 (by kernel_rfl)).symm.trans h1_) (by decide), Q_X9_⟩
    refine steps_cons ?_ ?_
    · rintro b a w' ⟨vt, m9_, ha, Q_HB, Q_RT, Q_X9_⟩ hb_ hon hoff
      refine ⟨_, rfl, fun K hK => ?_⟩
      have e27 : a.tmps[27]? = some (.bool false) := by rw [ha]; exact putSel_on (e := (7, 27, .bool false)) 7 rfl rfl (hon 7 (by kernel_rfl)) rfl
      have e32 : a.tmps[32]? = some (.bool false) := by rw [ha]; exact putSel_on (e := (12, 32, .bool false)) 12 rfl rfl (hon 12 (by kernel_rfl)) rfl
      replace ha := Aside0.mk ha
      have HB := Aside0.mk Q_HB
      refine value_ (w1 := w') (v := .bool false) (by rfl) rfl ?_ ?_
      · go_simp
        (try simp only [i64_w])
        try rfl
      refine hK.out _ _ ⟨vt, m9_, (by rw [ha.out]; exact putSel_upk 13 hb_ rfl rfl rfl), Q_HB, fun _ h1_ => absurd ((hon 11 (by kernel_rfl)).symm.trans h1_) (by decide), Q_X9_⟩
    exact steps_nil
  · rintro b a w' hall ⟨vt, m9_, ha, Q_HB, Q_RT, Q_X9_⟩
    clear HB
    have hb0_ := hall 0 (by kernel_rfl)
    have hb1_ := hall 1 (by kernel_rfl)
    have hb2_ := hall 2 (by kernel_rfl)
    have hb3_ := hall 3 (by kernel_rfl)
    have hb4_ := hall 4 (by kernel_rfl)
    have hb5_ := hall 5 (by kernel_rfl)
    have hb6_ := hall 6 (by kernel_rfl)
    have hb7_ := hall 7 (by kernel_rfl)
    have hb8_ := hall 8 (by kernel_rfl)
    have hb9_ := hall 9 (by kernel_rfl)
    have hb10_ := hall 10 (by kernel_rfl)
    have hb11_ := hall 11 (by kernel_rfl)
    have hb12_ := hall 12 (by kernel_rfl)
    have hb13_ := hall 13 (by kernel_rfl)
    subst ha
    obtain rfl := Q_X9_ hb9_
    simp only [putSel, hb0_, hb1_, hb2_, hb3_, hb4_, hb5_, hb6_, hb7_, hb8_, hb9_, hb10_, hb11_, hb12_, hb13_, if_true, Act.put, List.setIfInBounds_toArray, List.set_cons_zero, List.set_cons_succ]
    have HB := Aside0.mk Q_HB
    clear Q_HB
    clear Q_RT
    clear hall hb0_ hb1_ hb2_ hb3_ hb4_ hb5_ hb6_ hb7_ hb8_ hb9_ hb10_ hb11_ hb12_ hb13_
    have HBR := Lib.hid HB.out
    have B6 := Lib.hid (B5.out.below HB.out)
    have B36 := Lib.hid (B35.out.below HB.out)
    have CM6 := Lib.hid (Kd.C_below CM5.out HB.out)
    have CV6 := Lib.hid (Kd.C_below CV5.out HB.out)
    have HB6 := Lib.hid (bthen' HB5.out HB.out)
    clear HB B5 B35 CM5 CV5 HB5 HBR HT5
    have p0 := B36.out.cell 0
    have p1 := B36.out.cell 1
    simp only [List.getElem?_toArray, List.getElem?_cons_zero, List.getElem?_cons_succ] at p0 p1
    go_wp2_with fail
    have hX : -17 ≤ Int.tmod ax 18 ∧ Int.tmod ax 18 ≤ 17 := tmod18 ax
    have hY : -17 ≤ Int.tmod ay 18 ∧ Int.tmod ay 18 ≤ 17 := tmod18 ay
    generalize Int.tmod ax 18 = X at *
    generalize Int.tmod ay 18 = Y at *
    have HX := Lib.hid hX
    have HY := Lib.hid hY
    have HML' : Hid (m.length ≤ 100000) := Lib.hid (by have := HM.out.1; omega)
    have HIN := Lib.hid (fun x y hx hy => inside_f HML.out HMC.out (good_near HM.out) x y hx hy HML'.out)
    clear hX hY p0 p1 B36 HF1 HU HTR HSS HTM HML HML' HMC
    have HUW := Lib.hid HRT.out.2
    clear HRT
    go_loopw [11] (fun i wr => ∃ k : Nat, k ≤ 18 ∧ i = .int .i64 k ∧ Hid (Below w'.heap.size w' wr)) (fun i _ => 18 - (intOf i).toNat)
    case atStart => exact ⟨0, Nat.zero_le _, rfl, Lib.hid (Below.refl _ _)⟩
    case round =>
    obtain ⟨k, hk, rfl, HBr⟩ := hrel
    by_cases hlt : k < 18
    · have d1 : decide ((k : Int) < 18) = true := decide_eq_true (by omega)
      obtain ⟨kk, hkk⟩ : ∃ kk : Int, kk = (k : Int) - 9 := ⟨_, rfl⟩
      have hkb : -9 ≤ kk ∧ kk ≤ 8 := by omega
      have e1 : IntKind.i64.wrap ((k : Int) - 9) = kk := by rw [hkk]; exact IntWalk.i64_in _ (by omega)
      have e2 : IntKind.i64.wrap (64 * X) = 64 * X := IntWalk.i64_in _ (by have := HX.out; omega)
      have e3 : IntKind.i64.wrap (64 * X + 32) = 64 * X + 32 := IntWalk.i64_in _ (by have := HX.out; omega)
      have e4 : IntKind.i64.wrap (64 * kk) = 64 * kk := IntWalk.i64_in _ (by omega)
      have e5 : IntKind.i64.wrap (64 * kk + 32) = 64 * kk + 32 := IntWalk.i64_in _ (by omega)
      have e6 : IntKind.i64.wrap (64 * Y) = 64 * Y := IntWalk.i64_in _ (by have := HY.out; omega)
      have e7 : IntKind.i64.wrap (64 * Y + 32) = 64 * Y + 32 := IntWalk.i64_in _ (by have := HY.out; omega)
      have e8 : IntKind.i64.wrap ((k : Int) + 1) = ((k + 1 : Nat) : Int) := by rw [IntWalk.i64_in _ (by omega)]; omega
      have hn1 : near12 (64 * X + 32) := by have := HX.out; unfold near12; omega
      have hn2 : near12 (64 * kk + 32) := by unfold near12; omega
      have hn3 : near12 (64 * Y + 32) := by have := HY.out; unfold near12; omega
      have IN1 := Lib.hid (HIN.out (64 * X + 32) (64 * kk + 32) hn1 hn2)
      have IN2 := Lib.hid (HIN.out (64 * kk + 32) (64 * Y + 32) hn2 hn3)
      have HK1 := Lib.hid hlt
      clear hkk hkb hn1 hn2 hn3 hlt hk
      have BB := Lib.hid (B6.out.below HBr.out)
      have CVr := Lib.hid (Kd.C_below CV6.out HBr.out)
      have CMr := Lib.hid (Kd.C_below CM6.out HBr.out)
      have q0 := BB.out.cell 0
      have q1 := BB.out.cell 1
      have q2 := BB.out.cell 2
      have q3 := BB.out.cell 3
      have q4 := BB.out.cell 4
      simp only [List.getElem?_toArray, List.getElem?_cons_zero, List.getElem?_cons_succ] at q0 q1 q2 q3 q4
      go_wp2_with fail
      refine (get_any bL bT bW bH X kk Av cv br wr CVr.out LV.out HUW.out).mono ?_
      rintro e u1 ⟨rfl, hb⟩
      rw [HPX.out X kk]
      replace BB := Lib.hid (BB.out.below hb)
      replace CVr := Lib.hid (Kd.C_below CVr.out hb)
      replace CMr := Lib.hid (Kd.C_below CMr.out hb)
      replace HBr := Lib.hid (bthen' HBr.out hb)
      clear hb q0 q1 q2 q3 q4
      have q0 := BB.out.cell 0
      have q1 := BB.out.cell 1
      have q2 := BB.out.cell 2
      have q3 := BB.out.cell 3
      have q4 := BB.out.cell 4
      simp only [List.getElem?_toArray, List.getElem?_cons_zero, List.getElem?_cons_succ] at q0 q1 q2 q3 q4
      go_wp2_with fail
      refine (scan_Inside.calls _ Am cm m (64 * X + 32) (64 * kk + 32) (Pin m (64 * X + 32) (64 * kk + 32)) u1 CMr.out LM.out IN1.out).mono ?_
      rintro e u2 ⟨rfl, hb⟩
      replace BB := Lib.hid (BB.out.below hb)
      replace CVr := Lib.hid (Kd.C_below CVr.out hb)
      replace CMr := Lib.hid (Kd.C_below CMr.out hb)
      replace HBr := Lib.hid (bthen' HBr.out hb)
      clear hb q0 q1 q2 q3 q4
      have q0 := BB.out.cell 0
      have q1 := BB.out.cell 1
      have q2 := BB.out.cell 2
      have q3 := BB.out.cell 3
      have q4 := BB.out.cell 4
      simp only [List.getElem?_toArray, List.getElem?_cons_zero, List.getElem?_cons_succ] at q0 q1 q2 q3 q4
      have n1 : (Pin m (64 * X + 32) (64 * kk + 32) != Pin m (64 * X + 32) (64 * kk + 32)) = false := by simp
      generalize Pin m (64 * X + 32) (64 * kk + 32) = P1 at *
      go_wp2_with fail
      refine (get_any bL bT bW bH kk Y Av cv br u2 CVr.out LV.out HUW.out).mono ?_
      rintro e u3 ⟨rfl, hb⟩
      rw [HPX.out kk Y]
      replace BB := Lib.hid (BB.out.below hb)
      replace CVr := Lib.hid (Kd.C_below CVr.out hb)
      replace CMr := Lib.hid (Kd.C_below CMr.out hb)
      replace HBr := Lib.hid (bthen' HBr.out hb)
      clear hb q0 q1 q2 q3 q4
      have q0 := BB.out.cell 0
      have q1 := BB.out.cell 1
      have q2 := BB.out.cell 2
      have q3 := BB.out.cell 3
      have q4 := BB.out.cell 4
      simp only [List.getElem?_toArray, List.getElem?_cons_zero, List.getElem?_cons_succ] at q0 q1 q2 q3 q4
      go_wp2_with fail
      refine (scan_Inside.calls _ Am cm m (64 * kk + 32) (64 * Y + 32) (Pin m (64 * kk + 32) (64 * Y + 32)) u3 CMr.out LM.out IN2.out).mono ?_
      rintro e u4 ⟨rfl, hb⟩
      replace BB := Lib.hid (BB.out.below hb)
      replace CVr := Lib.hid (Kd.C_below CVr.out hb)
      replace CMr := Lib.hid (Kd.C_below CMr.out hb)
      replace HBr := Lib.hid (bthen' HBr.out hb)
      clear hb q0 q1 q2 q3 q4
      have q0 := BB.out.cell 0
      have q1 := BB.out.cell 1
      have q2 := BB.out.cell 2
      have q3 := BB.out.cell 3
      have q4 := BB.out.cell 4
      simp only [List.getElem?_toArray, List.getElem?_cons_zero, List.getElem?_cons_succ] at q0 q1 q2 q3 q4
      have n2 : (Pin m (64 * kk + 32) (64 * Y + 32) != Pin m (64 * kk + 32) (64 * Y + 32)) = false := by simp
      generalize Pin m (64 * kk + 32) (64 * Y + 32) = P2 at *
      go_wp2_with fail
      go_roundw
      case rel => exact ⟨k + 1, by have := HK1.out; omega, rfl, HBr⟩
      case measure => have := HK1.out; simp [intOf]; omega
    · obtain rfl : k = 18 := by omega
      have HBF := Lib.hid (bthen' HB6.out HBr.out)
      clear hlt hk
      go_wp2_with fail
      go_ret
      exact ⟨rfl, HBF.out⟩
end Go.Proofs.YtleljodcdbhifaaDoor
