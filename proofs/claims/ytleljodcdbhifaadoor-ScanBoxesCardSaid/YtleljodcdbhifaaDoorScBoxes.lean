/- The law ScanBoxes. -/
import Derived.Test.YtleljodcdbhifaaDoorBa4
import Derived.Test.YtleljodcdbhifaaDoorScBoxP
set_option linter.unusedVariables false
set_option linter.unusedSimpArgs false
namespace Go.Proofs.YtleljodcdbhifaaDoor
open Go.RowKit Go.Proofs.YtleljodcdbhifaaDoorW.PrintWords Go.Proofs.YtleljodcdbhifaaDoorW.PrintLast Go.Proofs.YtleljodcdbhifaaDoorW.PrintMore Hy
attribute [local go_sem ↓] Go.wp_at_zero Go.wp_at_succ
attribute [local go_sem] max2_int min2_int max_two min_two
theorem tmod900 (n : Int) : -899 ≤ Int.tmod n 900 ∧ Int.tmod n 900 ≤ 899 := by
  have h1 := Int.tmod_lt_of_pos n (show (0 : Int) < 900 by decide)
  have h2 := Int.tmod_lt_of_pos (-n) (show (0 : Int) < 900 by decide)
  rw [Int.neg_tmod] at h2
  omega
theorem on_box (x0 y0 x1 y1 : Int) : abugidalaw11_on.f 6 [x0, y0, x1, y0, x1, y1, x0, y1] = some (boxL x0 y0 x1 y1) := by kernel_rfl
def rn1 (x0 y0 x1 y1 : Int) : List S30 := [⟨x0, y0, true⟩, ⟨x1, y0, false⟩, ⟨x1, y1, true⟩, ⟨x0, y1, true⟩]
theorem off1 (x0 y0 x1 y1 : Int) : (boxL x0 y0 x1 y1).set 1 ⟨((boxL x0 y0 x1 y1).getD 1 z30).f0, ((boxL x0 y0 x1 y1).getD 1 z30).f1, false⟩ = rn1 x0 y0 x1 y1 := by rfl
theorem off3 (x0 y0 x1 y1 : Int) : (rn1 x0 y0 x1 y1).set 3 ⟨((rn1 x0 y0 x1 y1).getD 3 z30).f0, ((rn1 x0 y0 x1 y1).getD 3 z30).f1, false⟩ = rndL x0 y0 x1 y1 := by rfl
set_option maxRecDepth 100000 in
set_option maxHeartbeats 40000000 in
theorem scanBoxes_walk (p0 p1 q0 q1 : Int) (w : World) (hT : Tab w) (wa : (Lit.int .i64 p0).wf = true) (wb : (Lit.int .i64 p1).wf = true) (wc : (Lit.int .i64 q0).wf = true) (wd : (Lit.int .i64 q1).wf = true) :
    Calls Tryd.prog 9 #[.agg #[.int .i64 p0, .int .i64 p1], .agg #[.int .i64 q0, .int .i64 q1]] w fun e w' => e = .returned (.bool true) ∧ Below w.heap.size w w' := by
  have hu36 := Tryd.underlying36
  have HT := Lib.hid hT
  clear hT wa wb wc wd
  go_enter Tryd.func9, Tryd.ntmps9
  go_wp2_with fail
  obtain ⟨w0, g2, hw, hg, P1, HP1, _⟩ := new_box w #[.int .i64 p0, .int .i64 p1] 24
  obtain ⟨w1, g3, hw', hg', Q1, HQ1, _⟩ := new_box w0 #[.int .i64 q0, .int .i64 q1] 24
  have eg : g2 + 1 = g3 := by rw [← hg', ← hw, World.size_alloc, hg]
  rw [hg, hw, hw', eg]
  have HB1 := Lib.hid (bthen' HP1.out HQ1.out)
  have P2 := Lib.hid (P1.out.below HQ1.out)
  clear hw hg hw' hg' eg P1 HP1 HQ1
  refine (sanity_any w1 (HT.out.below HB1.out)).mono ?_
  rintro e w2 ⟨rfl, hb⟩
  have HB2 := Lib.hid (bthen' HB1.out hb)
  have P3 := Lib.hid (P2.out.below hb)
  have Q3 := Lib.hid (Q1.out.below hb)
  clear hb HB1 P2 Q1
  have a0 := P3.out.cell 0
  have a1 := P3.out.cell 1
  have b0 := Q3.out.cell 0
  have b1 := Q3.out.cell 1
  simp only [List.getElem?_toArray, List.getElem?_cons_zero, List.getElem?_cons_succ] at a0 a1 b0 b1
  have m0 := tmod900 p0
  have m1 := tmod900 p1
  have m2 := tmod900 q0
  have m3 := tmod900 q1
  obtain ⟨P, hP⟩ : ∃ P, Int.tmod p0 900 = P := ⟨_, rfl⟩
  obtain ⟨P', hP'⟩ : ∃ P, Int.tmod p1 900 = P := ⟨_, rfl⟩
  obtain ⟨Q, hQ⟩ : ∃ P, Int.tmod q0 900 = P := ⟨_, rfl⟩
  obtain ⟨Q', hQ'⟩ : ∃ P, Int.tmod q1 900 = P := ⟨_, rfl⟩
  rw [hP] at m0
  rw [hP'] at m1
  rw [hQ] at m2
  rw [hQ'] at m3
  obtain ⟨x0, hx0⟩ : ∃ x : Int, (if Q < P then Q else P) = x := ⟨_, rfl⟩
  obtain ⟨x1, hx1⟩ : ∃ x : Int, (if P < Q then Q else P) = x := ⟨_, rfl⟩
  obtain ⟨y0, hy0⟩ : ∃ x : Int, (if Q' < P' then Q' else P') = x := ⟨_, rfl⟩
  obtain ⟨y1, hy1⟩ : ∃ x : Int, (if P' < Q' then Q' else P') = x := ⟨_, rfl⟩
  have HX := Lib.hid (show x0 ≤ x1 ∧ -899 ≤ x0 ∧ x1 ≤ 899 by rw [← hx0, ← hx1]; (repeat' split) <;> omega)
  have HY := Lib.hid (show y0 ≤ y1 ∧ -899 ≤ y0 ∧ y1 ≤ 899 by rw [← hy0, ← hy1]; (repeat' split) <;> omega)
  clear m0 m1 m2 m3
  go_upto_region 6 with fail
  clear hP hP' hQ hQ' hx0 hx1 hy0 hy1 a0 a1 b0 b1 P3 Q3
  go_wp2_with fail
  obtain ⟨w3, g5, hw, hg, R3, HR3, _⟩ := new_box w2 #[.int .i64 x0, .int .i64 y0, .int .i64 x1, .int .i64 y0, .int .i64 x1, .int .i64 y1, .int .i64 x0, .int .i64 y1] 3
  rw [hw, hg]
  clear hw hg
  refine (on_lit [x0, y0, x1, y0, x1, y1, x0, y1] (boxL x0 y0 x1 y1) g5 _ w3 R3.out (by simp) (on_box x0 y0 x1 y1) 4 rfl (by decide)).mono ?_
  rintro e w4 ⟨gs, cs, rfl, _, hR, hb⟩
  have HB4 := Lib.hid (bthen' HB2.out (bthen' HR3.out hb))
  have CS := Lib.hid (Kd.R_reads' hR).2
  clear hb hR R3 HR3 HB2
  go_wp2_with fail
  obtain ⟨w5, g6, hw, hg, S5', HS5, _⟩ := new_box w4 #[.slice (some ⟨gs, 0, none⟩) 4 cs] 28
  rw [hw, hg]
  clear hw hg
  have HB5 := Lib.hid (bthen' HB4.out HS5.out)
  have CS5 := Lib.hid (Kd.C_below CS.out.2 HS5.out)
  have LS := Lib.hid CS.out.1
  clear HB4 CS HS5
  have HPX := Lib.hid (fun x y => (fill_boxL x0 y0 x1 y1 HX.out.1 HY.out.1 HX.out.2.1 HX.out.2.2 HY.out.2.1 HY.out.2.2 x y).2)
  have HE : (fillB [boxL x0 y0 x1 y1]).2 = 0 := (fill_boxL x0 y0 x1 y1 HX.out.1 HY.out.1 HX.out.2.1 HX.out.2.2 HY.out.2.1 HY.out.2.2 0 0).1
  have HFB := Lib.hid (fill_both x0 y0 x1 y1 HX.out.1 HY.out.1)
  have HRT := Lib.hid (fill_right (l := [boxL x0 y0 x1 y1]))
  refine (fill_any (some ⟨g6, 0, none⟩) 1 [boxL x0 y0 x1 y1] w5 (HT.out.below HB5.out) (C_rows1 S5'.out LS.out CS5.out) (by simp) (by simp [boxL])).mono ?_
  rintro e w6 ⟨v, rfl, hR, hb⟩
  rw [HE]
  have HF2 : Hid ((fillB [boxL x0 y0 x1 y1, rndL x0 y0 x1 y1]).1 = (fillB [boxL x0 y0 x1 y1]).1 ∧ (fillB [boxL x0 y0 x1 y1, rndL x0 y0 x1 y1]).2 = 0) := Lib.hid ⟨by rw [HFB.out], by rw [HFB.out, HE]⟩
  clear HE HFB
  obtain ⟨⟨bL, bT, bW, bH, br⟩, hfb⟩ : ∃ b, (fillB [boxL x0 y0 x1 y1]).1 = b := ⟨_, rfl⟩
  rw [hfb] at hR HPX HRT HF2
  rw [hfb]
  dsimp only at hR HPX HRT ⊢
  obtain ⟨Av, cv, rfl⟩ := Kd.R_slice hR
  have CV := Lib.hid (Kd.R_reads' hR).2.2
  have LV := Lib.hid (Kd.R_reads' hR).2.1
  have HU := Lib.hid HRT.out.2
  have HB6 := Lib.hid (bthen' HB5.out hb)
  have CS6 := Lib.hid (Kd.C_below CS5.out hb)
  clear hR hb hfb HB5 S5' CS5 HRT
  go_upto_region 8 with fail
  obtain ⟨w7, g11, hw, hg, B7, HW7, _⟩ := new_box w6 #[.int .i64 bL, .int .i64 bT, .int .i64 bW, .int .i64 bH, .slice Av br.length cv] 36
  rw [hw, hg]
  have HB7 := Lib.hid (bthen' HB6.out HW7.out)
  have CS7 := Lib.hid (Kd.C_below CS6.out HW7.out)
  have CV7 := Lib.hid (Kd.C_below CV.out HW7.out)
  clear hw hg HB6 CS6 CV HW7
  go_wp2_with fail
  go_loopw [13] (fun i wr => ∃ j : Int, -15 ≤ j ∧ j ≤ 15 ∧ i = .int .i64 j ∧ Hid (Below w7.heap.size w7 wr)) (fun i _ => (15 - intOf i).toNat)
  case atStart => exact ⟨-15, by decide, by decide, rfl, Lib.hid (Below.refl _ _)⟩
  case round =>
  obtain ⟨j, hj0, hj1, rfl, HBo⟩ := hrel
  generalize hwr : wr = wo at *
  clear hwr
  by_cases hj : j < 15
  · have dj : decide (j < 15) = true := decide_eq_true hj
    have HJ := Lib.hid (show -15 ≤ j ∧ j < 15 from ⟨hj0, hj⟩)
    have e5 : IntKind.i64.wrap (j + 1) = j + 1 := IntWalk.i64_in _ (by omega)
    clear hj0 hj1 hj
    go_wp2_with fail
    go_loopw [14] (fun i wr => ∃ k : Int, -15 ≤ k ∧ k ≤ 15 ∧ i = .int .i64 k ∧ Hid (Below w7.heap.size w7 wr)) (fun i _ => (15 - intOf i).toNat)
    case atStart => exact ⟨-15, by decide, by decide, rfl, HBo⟩
    case round =>
    obtain ⟨k, hk0, hk1, rfl, HBr⟩ := hrel
    by_cases hk : k < 15
    · have dk : decide (k < 15) = true := decide_eq_true hk
      have HK := Lib.hid (show -15 ≤ k ∧ k < 15 from ⟨hk0, hk⟩)
      have e1 : IntKind.i64.wrap (64 * k) = 64 * k := IntWalk.i64_in _ (by omega)
      have e2 : IntKind.i64.wrap (64 * k + 32) = 64 * k + 32 := IntWalk.i64_in _ (by omega)
      have e3 : IntKind.i64.wrap (64 * j) = 64 * j := IntWalk.i64_in _ (by have := HJ.out; omega)
      have e4 : IntKind.i64.wrap (64 * j + 32) = 64 * j + 32 := IntWalk.i64_in _ (by have := HJ.out; omega)
      have e6 : IntKind.i64.wrap (k + 1) = k + 1 := IntWalk.i64_in _ (by omega)
      have PX := Lib.hid (HPX.out k j)
      clear hk0 hk1 hk
      have BB := Lib.hid (B7.out.below HBr.out)
      have CVr := Lib.hid (Kd.C_below CV7.out HBr.out)
      have q0 := BB.out.cell 0
      have q1 := BB.out.cell 1
      have q2 := BB.out.cell 2
      have q3 := BB.out.cell 3
      have q4 := BB.out.cell 4
      simp only [List.getElem?_toArray, List.getElem?_cons_zero, List.getElem?_cons_succ] at q0 q1 q2 q3 q4
      by_cases c1 : x0 ≤ 64 * k + 32
      rotate_left
      · have d1 : decide (x0 ≤ 64 * k + 32) = false := decide_eq_false c1
        have PV : Hid (getB ⟨bL, bT, bW, bH, br⟩ k j = false) := Lib.hid (by rw [PX.out]; exact decide_eq_false fun h => c1 h.1)
        clear c1
        go_wp2_with fail
        refine (get_any bL bT bW bH k j Av cv br wr CVr.out LV.out HU.out).mono ?_
        rintro e u1 ⟨rfl, hb⟩
        rw [PV.out]
        have HBn := Lib.hid (bthen' HBr.out hb)
        clear hb
        go_wp2_with fail
        go_roundw
        case rel => exact ⟨k + 1, by have := HK.out; omega, by have := HK.out; omega, rfl, HBn⟩
        case measure => have := HK.out; simp [intOf]; omega
      have d1 : decide (x0 ≤ 64 * k + 32) = true := decide_eq_true c1
      by_cases c2 : 64 * k + 32 < x1
      rotate_left
      · have d2 : decide (64 * k + 32 < x1) = false := decide_eq_false c2
        have PV : Hid (getB ⟨bL, bT, bW, bH, br⟩ k j = false) := Lib.hid (by rw [PX.out]; exact decide_eq_false fun h => c2 h.2.1)
        clear c1 c2
        go_wp2_with fail
        refine (get_any bL bT bW bH k j Av cv br wr CVr.out LV.out HU.out).mono ?_
        rintro e u1 ⟨rfl, hb⟩
        rw [PV.out]
        have HBn := Lib.hid (bthen' HBr.out hb)
        clear hb
        go_wp2_with fail
        go_roundw
        case rel => exact ⟨k + 1, by have := HK.out; omega, by have := HK.out; omega, rfl, HBn⟩
        case measure => have := HK.out; simp [intOf]; omega
      have d2 : decide (64 * k + 32 < x1) = true := decide_eq_true c2
      by_cases c3 : y0 ≤ 64 * j + 32
      rotate_left
      · have d3 : decide (y0 ≤ 64 * j + 32) = false := decide_eq_false c3
        have PV : Hid (getB ⟨bL, bT, bW, bH, br⟩ k j = false) := Lib.hid (by rw [PX.out]; exact decide_eq_false fun h => c3 h.2.2.1)
        clear c1 c2 c3
        go_wp2_with fail
        refine (get_any bL bT bW bH k j Av cv br wr CVr.out LV.out HU.out).mono ?_
        rintro e u1 ⟨rfl, hb⟩
        rw [PV.out]
        have HBn := Lib.hid (bthen' HBr.out hb)
        clear hb
        go_wp2_with fail
        go_roundw
        case rel => exact ⟨k + 1, by have := HK.out; omega, by have := HK.out; omega, rfl, HBn⟩
        case measure => have := HK.out; simp [intOf]; omega
      have d3 : decide (y0 ≤ 64 * j + 32) = true := decide_eq_true c3
      by_cases c4 : 64 * j + 32 < y1
      rotate_left
      · have d4 : decide (64 * j + 32 < y1) = false := decide_eq_false c4
        have PV : Hid (getB ⟨bL, bT, bW, bH, br⟩ k j = false) := Lib.hid (by rw [PX.out]; exact decide_eq_false fun h => c4 h.2.2.2)
        clear c1 c2 c3 c4
        go_wp2_with fail
        refine (get_any bL bT bW bH k j Av cv br wr CVr.out LV.out HU.out).mono ?_
        rintro e u1 ⟨rfl, hb⟩
        rw [PV.out]
        have HBn := Lib.hid (bthen' HBr.out hb)
        clear hb
        go_wp2_with fail
        go_roundw
        case rel => exact ⟨k + 1, by have := HK.out; omega, by have := HK.out; omega, rfl, HBn⟩
        case measure => have := HK.out; simp [intOf]; omega
      have d4 : decide (64 * j + 32 < y1) = true := decide_eq_true c4
      have PV : Hid (getB ⟨bL, bT, bW, bH, br⟩ k j = true) := Lib.hid (by rw [PX.out]; exact decide_eq_true ⟨c1, c2, c3, c4⟩)
      clear c1 c2 c3 c4
      go_wp2_with fail
      refine (get_any bL bT bW bH k j Av cv br wr CVr.out LV.out HU.out).mono ?_
      rintro e u1 ⟨rfl, hb⟩
      rw [PV.out]
      have HBn := Lib.hid (bthen' HBr.out hb)
      clear hb
      go_wp2_with fail
      go_roundw
      case rel => exact ⟨k + 1, by have := HK.out; omega, by have := HK.out; omega, rfl, HBn⟩
      case measure => have := HK.out; simp [intOf]; omega
    · have dk : decide (k < 15) = false := decide_eq_false hk
      have HJ2 := HJ.out
      go_wp2_with fail
      go_roundw
      case rel => exact ⟨j + 1, by omega, by omega, rfl, HBr⟩
      case measure => simp [intOf]; omega
  · have dj : decide (j < 15) = false := decide_eq_false hj
    clear hj hj0 hj1 HPX
    have HB8 := Lib.hid (bthen' HB7.out HBo.out)
    have B8 := Lib.hid (B7.out.below HBo.out)
    have CV8 := Lib.hid (Kd.C_below CV7.out HBo.out)
    have CS8 := Lib.hid (Kd.C_below CS7.out HBo.out)
    clear HB7 B7 CV7 CS7 HBo
    go_wp2_with fail
    obtain ⟨w9, g15, hw, hg, R9, HR9, _⟩ := new_box wo #[.int .i64 x0, .int .i64 y0, .int .i64 x1, .int .i64 y0, .int .i64 x1, .int .i64 y1, .int .i64 x0, .int .i64 y1] 3
    rw [hw, hg]
    clear hw hg
    have HB9 := Lib.hid (bthen' HB8.out HR9.out)
    have B9 := Lib.hid (B8.out.below HR9.out)
    have CV9 := Lib.hid (Kd.C_below CV8.out HR9.out)
    have CS9 := Lib.hid (Kd.C_below CS8.out HR9.out)
    clear HR9 HB8 B8 CV8 CS8
    refine (on_lit [x0, y0, x1, y0, x1, y1, x0, y1] (boxL x0 y0 x1 y1) g15 _ w9 R9.out (by simp) (on_box x0 y0 x1 y1) 4 rfl (by decide)).mono ?_
    rintro e w10 ⟨gr, cr, rfl, hgr, hR, hb⟩
    obtain ⟨hRo, hco, hfo⟩ := k30_off hR 1 (by decide)
    rw [off1, show 1 * 3 + 2 = 5 from rfl] at hRo
    rw [show 1 * 3 + 2 = 5 from rfl] at hco hfo
    obtain ⟨hRp, hcp, hfp⟩ := k30_off hRo 3 (by decide)
    rw [off3, show 3 * 3 + 2 = 11 from rfl] at hRp
    rw [show 3 * 3 + 2 = 11 from rfl] at hcp hfp
    have hcr : 4 ≤ cr := (Kd.R_reads' hR).2.1
    have HBz := Lib.hid (bset (bset hb hgr 5 (.bool false)) hgr 11 (.bool false))
    have RZ := Lib.hid (Kd.R_reads' hRp).2
    clear hRo hRp hR hb R9
    go_upto_region 22 with fail
    clear hco hfo hcp hfp
    generalize World.setCell _ _ _ = wz at *
    have HBZ := Lib.hid (bthen' HB9.out HBz.out)
    have B10 := Lib.hid (B9.out.below HBz.out)
    have CV10 := Lib.hid (Kd.C_below CV9.out HBz.out)
    have CS10 := Lib.hid (Kd.C_below CS9.out HBz.out)
    clear HB9 B9 CV9 CS9 HBz
    go_wp2_with fail
    obtain ⟨w11, g20, hw, hg, S11, HS11, _⟩ := new_box wz #[.slice (some ⟨gs, 0, none⟩) 4 cs, .slice (some ⟨gr, 0, none⟩) 4 cr] 28
    rw [hw, hg]
    clear hw hg
    have HB11 := Lib.hid (bthen' HBZ.out HS11.out)
    have B11 := Lib.hid (B10.out.below HS11.out)
    have CV11 := Lib.hid (Kd.C_below CV10.out HS11.out)
    have CS11 := Lib.hid (Kd.C_below CS10.out HS11.out)
    have CR11 := Lib.hid (Kd.C_below RZ.out.2 HS11.out)
    clear HBZ B10 CV10 CS10 HS11
    refine (fill_any (some ⟨g20, 0, none⟩) 2 [boxL x0 y0 x1 y1, rndL x0 y0 x1 y1] w11 (HT.out.below HB11.out) (C_rows2 S11.out LS.out CS11.out RZ.out.1 CR11.out) (by simp) (by simp [boxL, rndL])).mono ?_
    rintro e w12 ⟨v2, rfl, hR, hb⟩
    rw [HF2.out.2]
    rw [HF2.out.1] at hR ⊢
    dsimp only at hR ⊢
    obtain ⟨A2, c2, rfl⟩ := Kd.R_slice hR
    have C2' := Lib.hid (Kd.R_reads' hR).2
    have HB12 := Lib.hid (bthen' HB11.out hb)
    have B12 := Lib.hid (B11.out.below hb)
    have CV12 := Lib.hid (Kd.C_below CV11.out hb)
    clear hR hb HB11 B11 CV11 CS11 CR11 S11 RZ HT HF2
    go_upto_region 23 with fail
    obtain ⟨w13, g17, hw, hg, Y13, HY13, _⟩ := new_box w12 #[.int .i64 bL, .int .i64 bT, .int .i64 bW, .int .i64 bH, .slice A2 br.length c2] 36
    rw [hw, hg]
    have HB13 := Lib.hid (bthen' HB12.out HY13.out)
    have B13 := Lib.hid (B12.out.below HY13.out)
    have CV13 := Lib.hid (Kd.C_below CV12.out HY13.out)
    have C213 := Lib.hid (Kd.C_below C2'.out.2 HY13.out)
    clear hw hg HB12 B12 CV12 HY13
    have q0 := B13.out.cell 0
    have q1 := B13.out.cell 1
    have q2 := B13.out.cell 2
    have q3 := B13.out.cell 3
    have q4 := B13.out.cell 4
    simp only [List.getElem?_toArray, List.getElem?_cons_zero, List.getElem?_cons_succ] at q0 q1 q2 q3 q4
    have p0 := Y13.out.cell 0
    have p1 := Y13.out.cell 1
    have p2 := Y13.out.cell 2
    have p3 := Y13.out.cell 3
    have p4 := Y13.out.cell 4
    simp only [List.getElem?_toArray, List.getElem?_cons_zero, List.getElem?_cons_succ] at p0 p1 p2 p3 p4
    have HSS : Hid (abugidaref11_Same.f 0 bL bT bW bH br bL bT bW bH br = some true) := Lib.hid (by
      show some (sameB ⟨bL, bT, bW, bH, br⟩ ⟨bL, bT, bW, bH, br⟩) = some true
      rw [sameB_refl])
    go_wp2_with fail
    refine (abugidaref11_Same.calls 0 bL bT bW bH A2 c2 br bL bT bW bH Av cv br true w13 C213.out C2'.out.1 CV13.out LV.out HSS.out).mono ?_
    rintro e w14 ⟨rfl, hb⟩
    have HBF := Lib.hid (bthen' HB13.out hb)
    clear hb
    go_wp2_with fail
    go_ret
    exact ⟨rfl, HBF.out⟩
end Go.Proofs.YtleljodcdbhifaaDoor
