-- written by wip/hyb.py with the kit's print
import Derived.Test.YtleljodcdbhifaaDoorBa0
namespace Go.Proofs.YtleljodcdbhifaaDoor.Hy
open Go.RowKit Go.Proofs.YtleljodcdbhifaaDoorW.PrintWords Go.Proofs.YtleljodcdbhifaaDoorW.PrintLast Go.Proofs.YtleljodcdbhifaaDoorW.PrintMore
attribute [local go_sem] max2_int min2_int max_two min_two max_three min_three max_four min_four   -- for this text's walks alone
set_option linter.unusedVariables false
set_option linter.unusedSimpArgs false

/-! ### abugidalaw11_moved: function 23 -/
mutual
def abugidalaw11_moved.l0 : Nat → List (List (S30)) → Int → Int → List (List (S30)) → Int → Option ((List (List (S30))))
  | 0, _, _, _, _, _ => none
  | k + 1, x0, x1, x2, x7, x8 => if x8 < (x0.length : Int) then (abugidalaw11_moved.l1 k x0 x1 x2 x7 x8 ([] : List (S30)) 0) else (some x7)
def abugidalaw11_moved.l1 : Nat → List (List (S30)) → Int → Int → List (List (S30)) → Int → List (S30) → Int → Option ((List (List (S30))))
  | 0, _, _, _, _, _, _, _ => none
  | k + 1, x0, x1, x2, x7, x8, x9, x10 => if 0 ≤ x8 then (if x8 < (x0.length : Int) then (if x10 < ((rd_L3 x0 x8).length : Int) then (if 0 ≤ x10 then (if x9.length < 5864062014805 then (abugidalaw11_moved.l1 k x0 x1 x2 x7 x8 (x9 ++ [(⟨wrap64 (((rd_T30 (rd_L3 x0 x8) x10).f0) + x1), wrap64 (((rd_T30 (rd_L3 x0 x8) x10).f1) + x2), (rd_T30 (rd_L3 x0 x8) x10).f2⟩ : S30)]) (wrap64 (x10 + 1))) else (none)) else (none)) else (if x7.length < 5864062014805 then (abugidalaw11_moved.l0 k x0 x1 x2 (x7 ++ [x9]) (wrap64 (x8 + 1))) else (none))) else (none)) else (none)
end
def abugidalaw11_moved.f (k : Nat) (l0 : List (List (S30))) (a1 : Int) (a2 : Int) : Option ((List (List (S30)))) := abugidalaw11_moved.l0 k l0 a1 a2 ([] : List (List (S30))) 0
theorem abugidalaw11_moved.mono_l : ∀ k, (∀ y0 y1 y2 y3 y4, LeO (abugidalaw11_moved.l0 k y0 y1 y2 y3 y4) (abugidalaw11_moved.l0 (k + 1) y0 y1 y2 y3 y4)) ∧ (∀ y0 y1 y2 y3 y4 y5 y6, LeO (abugidalaw11_moved.l1 k y0 y1 y2 y3 y4 y5 y6) (abugidalaw11_moved.l1 (k + 1) y0 y1 y2 y3 y4 y5 y6))
  | 0 => ⟨fun _ _ _ _ _ r h => by simp [abugidalaw11_moved.l0] at h, fun _ _ _ _ _ _ _ r h => by simp [abugidalaw11_moved.l1] at h⟩
  | k + 1 => by
    obtain ⟨ih0, ih1⟩ := abugidalaw11_moved.mono_l k
    refine ⟨?_, ?_⟩
    · intro y0 y1 y2 y3 y4
      unfold abugidalaw11_moved.l0
      repeat' first
      | (with_reducible exact ih0 _ _ _ _ _)
      | (with_reducible exact ih1 _ _ _ _ _ _ _)
      | (with_reducible exact LeO.refl _)
      | (with_reducible exact LeO.none _)
      | (with_reducible refine LeO.ite ?_ ?_)
      | (with_reducible refine LeO.bind ?_ (fun _ => ?_))
      | exact ih0 _ _ _ _ _
      | exact ih1 _ _ _ _ _ _ _
      | exact LeO.none _
      | refine LeO.ite ?_ ?_
      | refine LeO.bind ?_ (fun _ => ?_)
    · intro y0 y1 y2 y3 y4 y5 y6
      unfold abugidalaw11_moved.l1
      repeat' first
      | (with_reducible exact ih0 _ _ _ _ _)
      | (with_reducible exact ih1 _ _ _ _ _ _ _)
      | (with_reducible exact LeO.refl _)
      | (with_reducible exact LeO.none _)
      | (with_reducible refine LeO.ite ?_ ?_)
      | (with_reducible refine LeO.bind ?_ (fun _ => ?_))
      | exact ih0 _ _ _ _ _
      | exact ih1 _ _ _ _ _ _ _
      | exact LeO.none _
      | refine LeO.ite ?_ ?_
      | refine LeO.bind ?_ (fun _ => ?_)
theorem abugidalaw11_moved.mono : ∀ a0 a1 a2 k, LeO (abugidalaw11_moved.f k a0 a1 a2) (abugidalaw11_moved.f (k + 1) a0 a1 a2) := by
  intro a0 a1 a2 k
  obtain ⟨ih0, ih1⟩ := abugidalaw11_moved.mono_l k
  unfold abugidalaw11_moved.f
  repeat' first
      | (with_reducible exact ih0 _ _ _ _ _)
      | (with_reducible exact ih1 _ _ _ _ _ _ _)
      | (with_reducible exact LeO.refl _)
      | (with_reducible exact LeO.none _)
      | (with_reducible refine LeO.ite ?_ ?_)
      | (with_reducible refine LeO.bind ?_ (fun _ => ?_))
      | exact ih0 _ _ _ _ _
      | exact ih1 _ _ _ _ _ _ _
      | exact LeO.none _
      | refine LeO.ite ?_ ?_
      | refine LeO.bind ?_ (fun _ => ?_)
def abugidalaw11_moved.T9 : Bool × List (List Nat × List Nat) := (true, [([], []), ([], []), ([], []), ([1, 2], [1, 2]), ([3], [3]), ([], []), ([4, 5], [4, 5]), ([6], [6]), ([7], [7]), ([], []), ([8, 9], [8, 9]), ([], []), ([], []), ([11, 12], [11, 12]), ([13], [13]), ([], []), ([14, 15], [14, 15]), ([16], [16]), ([17], [17]), ([], []), ([18, 19], [18, 19]), ([], []), ([], []), ([21, 22], [21, 22]), ([23], [23]), ([], []), ([24, 25], [24, 25]), ([26], [26]), ([27], [27]), ([10, 20, 28], [10, 20, 28]), ([29], [29]), ([0, 30], [0, 30]), ([31, 31, 0, 1, 2, 3, 4, 5, 6, 7, 8, 9, 10, 11, 12, 13, 14, 15, 16, 17, 18, 19, 20, 21, 22, 23, 24, 25, 26, 27, 28, 29, 30, 31], [0, 31])])
def abugidalaw11_moved.B9 : List Nat := [0, 0, 0, 6, 14, 0, 62, 126, 254, 0, 1022, 0, 0, 6144, 14336, 0, 63488, 129024, 260096, 0, 1046528, 0, 0, 6291456, 14680064, 0, 65011712, 132120576, 266338304, 536870910, 1073741822, 2147483647, 4294967295]
theorem abugidalaw11_moved.tab9 : rtab .any (opsOf Tryd.f23 9) = abugidalaw11_moved.T9 := by kernel_rfl
theorem abugidalaw11_moved.bits9 : waitsOk abugidalaw11_moved.T9.2 abugidalaw11_moved.B9 = true := by kernel_rfl
set_option maxHeartbeats 8000000 in
set_option maxRecDepth 100000 in
theorem abugidalaw11_moved.calls (k : Nat) (A0 : Option Addr) (c0 : Nat) (l0 : List (List (S30))) (a1 : Int) (a2 : Int) (r : List (List (S30))) (w : World) (hr0 : Kd.C (Kd.slice 30 k30) w A0 l0.length l0) (hc0 : l0.length ≤ c0) (h : abugidalaw11_moved.f k l0 a1 a2 = some r) :
    Calls Tryd.prog 23 #[.slice A0 l0.length c0, .int .i64 a1, .int .i64 a2] w fun e w' => ∃ v0_ : Value, e = .returned (v0_) ∧ Kd.S (Kd.slice 30 k30) 28 w' w.heap.size (fun _ => True) v0_ r ∧ Below w.heap.size w w' := by
  have hu30 := Tryd.underlying30
  have HR0 := Aside0.mk hr0
  have HC0 := Aside0.mk hc0
  clear hr0 hc0
  have HB := Aside0.mk (Below.refl w.heap.size w)
  have H : (abugidalaw11_moved.l0 k l0 a1 a2 ([] : List (List (S30))) 0) = some r := h
  clear h
  have H' := Aside0.mk H
  clear H
  go_enter Tryd.func23, Tryd.ntmps23
  go_wp2
  go_loopg [7, 8] k (fun kq v7 v8 w' => ∃ (x7_1 : List (List (S30))) (x8_1 : Int), v8 = .int .i64 x8_1 ∧ Aside0 (abugidalaw11_moved.l0 kq l0 a1 a2 x7_1 x8_1 = some r) ∧ Aside0 (kq ≤ k) ∧ Aside0 (Kd.S (Kd.slice 30 k30) 28 w' w.heap.size (fun _ => True) v7 x7_1) ∧ Aside0 (Below w.heap.size w w'))
  case atStart => exact ⟨(([] : List (List (S30)))), (0), (by first | rfl | (simp; done) | (simp [*]; done)), H', ⟨Nat.le_refl _⟩, ⟨by first | exact Kd.S_nil _ _ _ _ _ | exact Kd.N_nil _ _ _ _ _ | exact Kd.V_nil _ _ _ _ _ | exact Kd.Q_nil _ _ _ _ _ | exact Kd.R_nil _ _ _ _ _⟩, ⟨by repeat (first | (with_reducible first | exact HB.out | apply below_alloc | apply pw_below_drewN | apply below_drew1) | exact HB.out)⟩⟩
  case round =>
    clear H'
    try clear c2
    try clear p2
    obtain ⟨x7_1, x8_1, rfl, HA, HK1, HO_7, HB⟩ := hrel
    cases gk with
    | zero => exact absurd HA.out (by simp [abugidalaw11_moved.l0])
    | succ k1 =>
      have H := HA.out
      clear HA
      simp only [abugidalaw11_moved.l0] at H
      by_cases c4 : x8_1 < (l0.length : Int)
      · rw [if_pos c4] at H
        have c4b0 : decide (x8_1 < (l0.length : Int)) = true := decide_eq_true c4
        clear c4
        have H' := Aside0.mk H
        clear H
        go_wp2
        go_loopg [9, 10] k1 (fun kq v9 v10 w' => ∃ (x9_2 : List (S30)) (x10_2 : Int), v10 = .int .i64 x10_2 ∧ Aside0 (abugidalaw11_moved.l1 kq l0 a1 a2 x7_1 x8_1 x9_2 x10_2 = some r) ∧ Aside0 (kq ≤ k1) ∧ Aside0 (Kd.S (Kd.slice 30 k30) 28 w' w.heap.size (fun k_ => some k_ ≠ (v9 : Value).ownBlock) u7 x7_1) ∧ Aside0 (Kd.R k30 30 w' w.heap.size (fun _ => True) v9 x9_2) ∧ Aside0 (Below w.heap.size w w'))
        case atStart => exact ⟨(([] : List (S30))), (0), (by first | rfl | (simp; done) | (simp [*]; done)), H', ⟨Nat.le_refl _⟩, ⟨by (with_reducible repeat (first | apply Kd.S_alloc | apply Kd.S_drewN | apply Kd.S_drew)); exact Kd.S_mono HO_7.out (fun _ hk => (by simp [Value.ownBlock]))⟩, ⟨by first | exact Kd.R_nil _ _ _ _ _ | exact Kd.N_nil _ _ _ _ _ | exact Kd.V_nil _ _ _ _ _ | exact Kd.Q_nil _ _ _ _ _ | exact Kd.S_nil _ _ _ _ _⟩, ⟨by repeat (first | (with_reducible first | exact HB.out | apply below_alloc | apply pw_below_drewN | apply below_drew1) | exact HB.out)⟩⟩
        case round =>
          clear H'
          try clear c2
          try clear p2
          try clear c4
          try clear c4b0
          try clear p2
          obtain ⟨x9_2, x10_2, rfl, HA, HK2, HO_7, HO_9, HB⟩ := hrel
          cases gk with
          | zero => exact absurd HA.out (by simp [abugidalaw11_moved.l1])
          | succ k2 =>
            have H := HA.out
            clear HA
            simp only [abugidalaw11_moved.l1] at H
            by_cases c5 : 0 ≤ x8_1
            · rw [if_pos c5] at H
              have c5b0 : decide (0 ≤ x8_1) = true := decide_eq_true c5
              clear c5
              by_cases c6 : x8_1 < (l0.length : Int)
              · rw [if_pos c6] at H
                have c6b0 : decide (x8_1 < (l0.length : Int)) = true := decide_eq_true c6
                clear c6
                by_cases c7 : x10_2 < ((rd_L3 l0 x8_1).length : Int)
                · rw [if_pos c7] at H
                  have c7b0 : decide (x10_2 < ((rd_L3 l0 x8_1).length : Int)) = true := decide_eq_true c7
                  clear c7
                  by_cases c8 : 0 ≤ x10_2
                  · rw [if_pos c8] at H
                    have c8b0 : decide (0 ≤ x10_2) = true := decide_eq_true c8
                    clear c8
                    by_cases c9 : x9_2.length < 5864062014805
                    · rw [if_pos c9] at H
                      have LMc9 := Aside0.mk c9
                      clear c9
                      obtain ⟨y394, hy394⟩ : ∃ y_ : List (S30), y_ = (x9_2 ++ [(⟨wrap64 (((rd_T30 (rd_L3 l0 x8_1) x10_2).f0) + a1), wrap64 (((rd_T30 (rd_L3 l0 x8_1) x10_2).f1) + a2), (rd_T30 (rd_L3 l0 x8_1) x10_2).f2⟩ : S30)]) := ⟨_, rfl⟩
                      replace H : (abugidalaw11_moved.l1 k2 l0 a1 a2 x7_1 x8_1 y394 (wrap64 (x10_2 + 1))) = some r := by first | (rw [hy394]; with_reducible exact H) | (have H2_ := (Option.bind_some _ _).symm.trans H; rw [hy394]; with_reducible exact H2_) | (have H2_ := (Option.bind_some _ _).symm.trans H; with_reducible exact H2_) | with_reducible exact H | (rw [hy394]; exact H) | exact H
                      have Ny394 := Aside0.mk hy394
                      clear hy394
                      have H' := Aside0.mk H
                      clear H
                      have p387 : 0 ≤ (x8_1 : Int) := of_decide_eq_true (by first | (with_reducible assumption) | assumption)
                      have q387 : x8_1 < (l0.length : Int) := of_decide_eq_true (by first | (with_reducible assumption) | assumption)
                      obtain ⟨ad387, A387_0, c387_0, e387, hx387_0, hl387_0, hi387_0⟩ := at_L3 HR0.out x8_1 p387 q387
                      cases e387
                      replace hx387_0 := (HB.out.cell (World.block_lt_of_cell? w _ hx387_0)).trans hx387_0
                      have HR387_0 := Aside0.mk hi387_0
                      have HC387_0 := Aside0.mk hl387_0
                      clear hi387_0 hl387_0
                      replace p387 := eq_true p387
                      replace q387 := eq_true q387
                      try go_wp2
                      have n0_ := Aside0.mk (Kd.S_drew HO_7.out)
                      have n1_ := Aside0.mk (Kd.R_drew HO_9.out)
                      have n2_ := Aside0.mk (below_drew1 HB.out)
                      clear HO_7
                      clear HO_9
                      clear HB
                      have HO_7 := n0_
                      have HO_9 := n1_
                      have HB := n2_
                      clear n0_ n1_ n2_
                      have p388 : 0 ≤ (x8_1 : Int) := of_decide_eq_true (by first | (with_reducible assumption) | assumption)
                      have q388 : x8_1 < (l0.length : Int) := of_decide_eq_true (by first | (with_reducible assumption) | assumption)
                      obtain ⟨ad388, A388_0, c388_0, e388, hx388_0, hl388_0, hi388_0⟩ := at_L3 HR0.out x8_1 p388 q388
                      have hw388_0 := hx388_0
                      obtain rfl : ad387 = ad388 := (by injection e388)
                      replace hx388_0 := (HB.out.cell (World.block_lt_of_cell? w _ hx388_0)).trans hx388_0
                      have HR388_0 := Aside0.mk hi388_0
                      have HC388_0 := Aside0.mk hl388_0
                      clear hi388_0 hl388_0
                      replace p388 := eq_true p388
                      replace q388 := eq_true q388
                      have p389 : 0 ≤ (x10_2 : Int) := of_decide_eq_true (by first | (with_reducible assumption) | assumption)
                      have q389 : x10_2 < ((rd_L3 l0 x8_1).length : Int) := of_decide_eq_true (by first | (with_reducible assumption) | assumption)
                      obtain ⟨ad389, e389, hx389_0, hx389_1, hx389_2⟩ := at_T30 HR388_0.out x10_2 p389 q389
                      have hw389_2 := hx389_2
                      have hw389_1 := hx389_1
                      have hw389_0 := hx389_0
                      cases e389
                      replace hx389_0 := (HB.out.cell (World.block_lt_of_cell? w _ hx389_0)).trans hx389_0
                      replace hx389_1 := (HB.out.cell (World.block_lt_of_cell? w _ hx389_1)).trans hx389_1
                      replace hx389_2 := (HB.out.cell (World.block_lt_of_cell? w _ hx389_2)).trans hx389_2
                      replace p389 := eq_true p389
                      replace q389 := eq_true q389
                      have p390 : 0 ≤ (x8_1 : Int) := of_decide_eq_true (by first | (with_reducible assumption) | assumption)
                      have q390 : x8_1 < (l0.length : Int) := of_decide_eq_true (by first | (with_reducible assumption) | assumption)
                      obtain ⟨ad390, A390_0, c390_0, e390, hx390_0, hl390_0, hi390_0⟩ := at_L3 HR0.out x8_1 p390 q390
                      have hw390_0 := hx390_0
                      obtain rfl : ad387 = ad390 := (by injection e390)
                      replace hx390_0 := (HB.out.cell (World.block_lt_of_cell? w _ hx390_0)).trans hx390_0
                      have HR390_0 := Aside0.mk hi390_0
                      have HC390_0 := Aside0.mk hl390_0
                      clear hi390_0 hl390_0
                      replace p390 := eq_true p390
                      replace q390 := eq_true q390
                      have ea_ := Option.some.inj (hx388_0.symm.trans hx390_0)
                      injection ea_ with ea_ en_ ec_
                      subst ea_
                      subst ec_
                      clear en_
                      have p391 : 0 ≤ (x10_2 : Int) := of_decide_eq_true (by first | (with_reducible assumption) | assumption)
                      have q391 : x10_2 < ((rd_L3 l0 x8_1).length : Int) := of_decide_eq_true (by first | (with_reducible assumption) | assumption)
                      obtain ⟨ad391, e391, hx391_0, hx391_1, hx391_2⟩ := at_T30 HR390_0.out x10_2 p391 q391
                      have hw391_2 := hx391_2
                      have hw391_1 := hx391_1
                      have hw391_0 := hx391_0
                      cases e391
                      replace hx391_0 := (HB.out.cell (World.block_lt_of_cell? w _ hx391_0)).trans hx391_0
                      replace hx391_1 := (HB.out.cell (World.block_lt_of_cell? w _ hx391_1)).trans hx391_1
                      replace hx391_2 := (HB.out.cell (World.block_lt_of_cell? w _ hx391_2)).trans hx391_2
                      replace p391 := eq_true p391
                      replace q391 := eq_true q391
                      have p392 : 0 ≤ (x8_1 : Int) := of_decide_eq_true (by first | (with_reducible assumption) | assumption)
                      have q392 : x8_1 < (l0.length : Int) := of_decide_eq_true (by first | (with_reducible assumption) | assumption)
                      obtain ⟨ad392, A392_0, c392_0, e392, hx392_0, hl392_0, hi392_0⟩ := at_L3 HR0.out x8_1 p392 q392
                      have hw392_0 := hx392_0
                      obtain rfl : ad387 = ad392 := (by injection e392)
                      replace hx392_0 := (HB.out.cell (World.block_lt_of_cell? w _ hx392_0)).trans hx392_0
                      have HR392_0 := Aside0.mk hi392_0
                      have HC392_0 := Aside0.mk hl392_0
                      clear hi392_0 hl392_0
                      replace p392 := eq_true p392
                      replace q392 := eq_true q392
                      have ea_ := Option.some.inj (hx388_0.symm.trans hx392_0)
                      injection ea_ with ea_ en_ ec_
                      subst ea_
                      subst ec_
                      clear en_
                      have p393 : 0 ≤ (x10_2 : Int) := of_decide_eq_true (by first | (with_reducible assumption) | assumption)
                      have q393 : x10_2 < ((rd_L3 l0 x8_1).length : Int) := of_decide_eq_true (by first | (with_reducible assumption) | assumption)
                      obtain ⟨ad393, e393, hx393_0, hx393_1, hx393_2⟩ := at_T30 HR392_0.out x10_2 p393 q393
                      have hw393_2 := hx393_2
                      have hw393_1 := hx393_1
                      have hw393_0 := hx393_0
                      cases e393
                      replace hx393_0 := (HB.out.cell (World.block_lt_of_cell? w _ hx393_0)).trans hx393_0
                      replace hx393_1 := (HB.out.cell (World.block_lt_of_cell? w _ hx393_1)).trans hx393_1
                      replace hx393_2 := (HB.out.cell (World.block_lt_of_cell? w _ hx393_2)).trans hx393_2
                      replace p393 := eq_true p393
                      replace q393 := eq_true q393
                      refine start_ (n := 33) (S := fun w' => w'.cell? (ad387.add (x8_1).toNat) = some (.slice (some ad389) (rd_L3 l0 x8_1).length c388_0) ∧ w'.cell? (ad389.add ((x10_2).toNat * 3)) = some (.int .i64 ((rd_T30 (rd_L3 l0 x8_1) x10_2).f0)) ∧ w'.cell? ⟨(ad389.add ((x10_2).toNat * 3)).block, (ad389.add ((x10_2).toNat * 3)).off + 1, none⟩ = some (.int .i64 ((rd_T30 (rd_L3 l0 x8_1) x10_2).f1)) ∧ w'.cell? ⟨(ad389.add ((x10_2).toNat * 3)).block, (ad389.add ((x10_2).toNat * 3)).off + 2, none⟩ = some (.bool ((rd_T30 (rd_L3 l0 x8_1) x10_2).f2)) ∧ w'.cell? (ad387.add (x8_1).toNat) = some (.slice (some ad389) (rd_L3 l0 x8_1).length c388_0) ∧ w'.cell? (ad389.add ((x10_2).toNat * 3)) = some (.int .i64 ((rd_T30 (rd_L3 l0 x8_1) x10_2).f0)) ∧ w'.cell? ⟨(ad389.add ((x10_2).toNat * 3)).block, (ad389.add ((x10_2).toNat * 3)).off + 1, none⟩ = some (.int .i64 ((rd_T30 (rd_L3 l0 x8_1) x10_2).f1)) ∧ w'.cell? ⟨(ad389.add ((x10_2).toNat * 3)).block, (ad389.add ((x10_2).toNat * 3)).off + 2, none⟩ = some (.bool ((rd_T30 (rd_L3 l0 x8_1) x10_2).f2)) ∧ w'.cell? (ad387.add (x8_1).toNat) = some (.slice (some ad389) (rd_L3 l0 x8_1).length c388_0) ∧ w'.cell? (ad389.add ((x10_2).toNat * 3)) = some (.int .i64 ((rd_T30 (rd_L3 l0 x8_1) x10_2).f0)) ∧ w'.cell? ⟨(ad389.add ((x10_2).toNat * 3)).block, (ad389.add ((x10_2).toNat * 3)).off + 1, none⟩ = some (.int .i64 ((rd_T30 (rd_L3 l0 x8_1) x10_2).f1)) ∧ w'.cell? ⟨(ad389.add ((x10_2).toNat * 3)).block, (ad389.add ((x10_2).toNat * 3)).off + 2, none⟩ = some (.bool ((rd_T30 (rd_L3 l0 x8_1) x10_2).f2))) (ds := []) #[false, false, false, false, false, false, false, false, false, false, false, false, false, false, false, false, false, false, false, false, false, false, false, false, false, false, false, false, false, false, false, false, false] (by kernel_rfl) rfl rfl ⟨((HB.out.cell (World.block_lt_of_cell? w _ hw388_0)).trans hw388_0), ((HB.out.cell (World.block_lt_of_cell? w _ hw389_0)).trans hw389_0), ((HB.out.cell (World.block_lt_of_cell? w _ hw389_1)).trans hw389_1), ((HB.out.cell (World.block_lt_of_cell? w _ hw389_2)).trans hw389_2), ((HB.out.cell (World.block_lt_of_cell? w _ hw390_0)).trans hw390_0), ((HB.out.cell (World.block_lt_of_cell? w _ hw391_0)).trans hw391_0), ((HB.out.cell (World.block_lt_of_cell? w _ hw391_1)).trans hw391_1), ((HB.out.cell (World.block_lt_of_cell? w _ hw391_2)).trans hw391_2), ((HB.out.cell (World.block_lt_of_cell? w _ hw392_0)).trans hw392_0), ((HB.out.cell (World.block_lt_of_cell? w _ hw393_0)).trans hw393_0), ((HB.out.cell (World.block_lt_of_cell? w _ hw393_1)).trans hw393_1), ((HB.out.cell (World.block_lt_of_cell? w _ hw393_2)).trans hw393_2)⟩ (fun hHeld => ?_); refine with_tabW abugidalaw11_moved.tab9 abugidalaw11_moved.bits9 (fun HT_ HW_ => ?_)
                      generalize wr.drew = w10 at HO_7 HO_9 HB HR388_0 HR390_0 HR392_0 hx388_0 hx389_0 hx389_1 hx389_2 hx390_0 hx391_0 hx391_1 hx391_2 hx392_0 hx393_0 hx393_1 hx393_2 hHeld ⊢
                      refine pure_ (i := 0) (N := some 26) (v := ?_) (a' := ?_) #[true, false, false, false, false, false, false, false, false, false, false, false, false, false, false, false, false, false, false, false, false, false, false, false, false, false, false, false, false, false, false, false, false] rfl rfl (any_of HT_.out (by kernel_rfl)) (fun _ _ _ h => h) (Or.inl ⟨by rfl, ?_⟩) ?_ ?_
                      rotate_left
                      · intro w'
                        go_simp
                        with_reducible rfl
                      rotate_left
                      · simp only [Act.put, List.setIfInBounds_toArray, List.set_cons_zero, List.set_cons_succ, i64_w, i32_w]
                        rfl
                      refine pure_ (i := 1) (N := some 27) (v := ?_) (a' := ?_) #[true, true, false, false, false, false, false, false, false, false, false, false, false, false, false, false, false, false, false, false, false, false, false, false, false, false, false, false, false, false, false, false, false] rfl rfl (any_of HT_.out (by kernel_rfl)) (fun _ _ _ h => h) (Or.inl ⟨by rfl, ?_⟩) ?_ ?_
                      rotate_left
                      · intro w'
                        go_simp
                        with_reducible rfl
                      rotate_left
                      · simp only [Act.put, List.setIfInBounds_toArray, List.set_cons_zero, List.set_cons_succ, i64_w, i32_w]
                        rfl
                      refine pure_ (i := 2) (N := some 28) (v := ?_) (a' := ?_) #[true, true, true, false, false, false, false, false, false, false, false, false, false, false, false, false, false, false, false, false, false, false, false, false, false, false, false, false, false, false, false, false, false] rfl rfl (any_of HT_.out (by kernel_rfl)) (fun _ _ _ h => h) (Or.inl ⟨by rfl, ?_⟩) ?_ ?_
                      rotate_left
                      · intro w'
                        go_simp
                        with_reducible rfl
                      rotate_left
                      · simp only [Act.put, List.setIfInBounds_toArray, List.set_cons_zero, List.set_cons_succ, i64_w, i32_w]
                        rfl
                      refine pure_ (i := 3) (N := some 29) (v := ?_) (a' := ?_) #[true, true, true, true, false, false, false, false, false, false, false, false, false, false, false, false, false, false, false, false, false, false, false, false, false, false, false, false, false, false, false, false, false] rfl rfl (any_of HT_.out (by kernel_rfl)) (fun _ _ _ h => h) (Or.inl ⟨by rfl, ?_⟩) ?_ ?_
                      rotate_left
                      · intro w'
                        go_simp
                        with_reducible rfl
                      rotate_left
                      · simp only [Act.put, List.setIfInBounds_toArray, List.set_cons_zero, List.set_cons_succ, i64_w, i32_w]
                        rfl
                      refine pure_ (i := 5) (N := some 31) (v := ?_) (a' := ?_) #[true, true, true, true, false, true, false, false, false, false, false, false, false, false, false, false, false, false, false, false, false, false, false, false, false, false, false, false, false, false, false, false, false] rfl rfl (any_of HT_.out (by kernel_rfl)) (fun _ _ _ h => h) (Or.inl ⟨by rfl, ?_⟩) ?_ ?_
                      rotate_left
                      · intro w'
                        go_simp
                        with_reducible rfl
                      rotate_left
                      · simp only [Act.put, List.setIfInBounds_toArray, List.set_cons_zero, List.set_cons_succ, i64_w, i32_w]
                        rfl
                      refine pure_ (i := 9) (N := some 35) (v := ?_) (a' := ?_) #[true, true, true, true, false, true, false, false, false, true, false, false, false, false, false, false, false, false, false, false, false, false, false, false, false, false, false, false, false, false, false, false, false] rfl rfl (any_of HT_.out (by kernel_rfl)) (fun _ _ _ h => h) (Or.inl ⟨by rfl, ?_⟩) ?_ ?_
                      rotate_left
                      · intro w'
                        go_simp
                        with_reducible rfl
                      rotate_left
                      · simp only [Act.put, List.setIfInBounds_toArray, List.set_cons_zero, List.set_cons_succ, i64_w, i32_w]
                        rfl
                      refine pure_ (i := 11) (N := some 37) (v := ?_) (a' := ?_) #[true, true, true, true, false, true, false, false, false, true, false, true, false, false, false, false, false, false, false, false, false, false, false, false, false, false, false, false, false, false, false, false, false] rfl rfl (any_of HT_.out (by kernel_rfl)) (fun _ _ _ h => h) (Or.inl ⟨by rfl, ?_⟩) ?_ ?_
                      rotate_left
                      · intro w'
                        go_simp
                        with_reducible rfl
                      rotate_left
                      · simp only [Act.put, List.setIfInBounds_toArray, List.set_cons_zero, List.set_cons_succ, i64_w, i32_w]
                        rfl
                      refine pure_ (i := 12) (N := some 38) (v := ?_) (a' := ?_) #[true, true, true, true, false, true, false, false, false, true, false, true, true, false, false, false, false, false, false, false, false, false, false, false, false, false, false, false, false, false, false, false, false] rfl rfl (any_of HT_.out (by kernel_rfl)) (fun _ _ _ h => h) (Or.inl ⟨by rfl, ?_⟩) ?_ ?_
                      rotate_left
                      · intro w'
                        go_simp
                        with_reducible rfl
                      rotate_left
                      · simp only [Act.put, List.setIfInBounds_toArray, List.set_cons_zero, List.set_cons_succ, i64_w, i32_w]
                        rfl
                      refine pure_ (i := 13) (N := some 39) (v := ?_) (a' := ?_) #[true, true, true, true, false, true, false, false, false, true, false, true, true, true, false, false, false, false, false, false, false, false, false, false, false, false, false, false, false, false, false, false, false] rfl rfl (any_of HT_.out (by kernel_rfl)) (fun _ _ _ h => h) (Or.inl ⟨by rfl, ?_⟩) ?_ ?_
                      rotate_left
                      · intro w'
                        go_simp
                        with_reducible rfl
                      rotate_left
                      · simp only [Act.put, List.setIfInBounds_toArray, List.set_cons_zero, List.set_cons_succ, i64_w, i32_w]
                        rfl
                      refine pure_ (i := 15) (N := some 41) (v := ?_) (a' := ?_) #[true, true, true, true, false, true, false, false, false, true, false, true, true, true, false, true, false, false, false, false, false, false, false, false, false, false, false, false, false, false, false, false, false] rfl rfl (any_of HT_.out (by kernel_rfl)) (fun _ _ _ h => h) (Or.inl ⟨by rfl, ?_⟩) ?_ ?_
                      rotate_left
                      · intro w'
                        go_simp
                        with_reducible rfl
                      rotate_left
                      · simp only [Act.put, List.setIfInBounds_toArray, List.set_cons_zero, List.set_cons_succ, i64_w, i32_w]
                        rfl
                      refine pure_ (i := 19) (N := some 45) (v := ?_) (a' := ?_) #[true, true, true, true, false, true, false, false, false, true, false, true, true, true, false, true, false, false, false, true, false, false, false, false, false, false, false, false, false, false, false, false, false] rfl rfl (any_of HT_.out (by kernel_rfl)) (fun _ _ _ h => h) (Or.inl ⟨by rfl, ?_⟩) ?_ ?_
                      rotate_left
                      · intro w'
                        go_simp
                        with_reducible rfl
                      rotate_left
                      · simp only [Act.put, List.setIfInBounds_toArray, List.set_cons_zero, List.set_cons_succ, i64_w, i32_w]
                        rfl
                      refine pure_ (i := 21) (N := some 47) (v := ?_) (a' := ?_) #[true, true, true, true, false, true, false, false, false, true, false, true, true, true, false, true, false, false, false, true, false, true, false, false, false, false, false, false, false, false, false, false, false] rfl rfl (any_of HT_.out (by kernel_rfl)) (fun _ _ _ h => h) (Or.inl ⟨by rfl, ?_⟩) ?_ ?_
                      rotate_left
                      · intro w'
                        go_simp
                        with_reducible rfl
                      rotate_left
                      · simp only [Act.put, List.setIfInBounds_toArray, List.set_cons_zero, List.set_cons_succ, i64_w, i32_w]
                        rfl
                      refine pure_ (i := 22) (N := some 48) (v := ?_) (a' := ?_) #[true, true, true, true, false, true, false, false, false, true, false, true, true, true, false, true, false, false, false, true, false, true, true, false, false, false, false, false, false, false, false, false, false] rfl rfl (any_of HT_.out (by kernel_rfl)) (fun _ _ _ h => h) (Or.inl ⟨by rfl, ?_⟩) ?_ ?_
                      rotate_left
                      · intro w'
                        go_simp
                        with_reducible rfl
                      rotate_left
                      · simp only [Act.put, List.setIfInBounds_toArray, List.set_cons_zero, List.set_cons_succ, i64_w, i32_w]
                        rfl
                      refine pure_ (i := 23) (N := some 49) (v := ?_) (a' := ?_) #[true, true, true, true, false, true, false, false, false, true, false, true, true, true, false, true, false, false, false, true, false, true, true, true, false, false, false, false, false, false, false, false, false] rfl rfl (any_of HT_.out (by kernel_rfl)) (fun _ _ _ h => h) (Or.inl ⟨by rfl, ?_⟩) ?_ ?_
                      rotate_left
                      · intro w'
                        go_simp
                        with_reducible rfl
                      rotate_left
                      · simp only [Act.put, List.setIfInBounds_toArray, List.set_cons_zero, List.set_cons_succ, i64_w, i32_w]
                        rfl
                      refine pure_ (i := 25) (N := some 51) (v := ?_) (a' := ?_) #[true, true, true, true, false, true, false, false, false, true, false, true, true, true, false, true, false, false, false, true, false, true, true, true, false, true, false, false, false, false, false, false, false] rfl rfl (any_of HT_.out (by kernel_rfl)) (fun _ _ _ h => h) (Or.inl ⟨by rfl, ?_⟩) ?_ ?_
                      rotate_left
                      · intro w'
                        go_simp
                        with_reducible rfl
                      rotate_left
                      · simp only [Act.put, List.setIfInBounds_toArray, List.set_cons_zero, List.set_cons_succ, i64_w, i32_w]
                        rfl
                      refine take_ (i := 4) (N := some 30) (v := ?_) (a' := ?_) #[true, true, true, true, true, true, false, false, false, true, false, true, true, true, false, true, false, false, false, true, false, true, true, true, false, true, false, false, false, false, false, false, false] rfl rfl (take_ofW HT_.out HW_.out (by kernel_rfl)) (fun _ _ _ h => h) (Or.inl ⟨by rfl, ?_⟩) hHeld ?_ ?_
                      rotate_left
                      · rintro w' ⟨s0, s1, s2, s3, s4, s5, s6, s7, s8, s9, s10, s11⟩
                        go_simp
                        with_reducible rfl
                      rotate_left
                      · simp only [Act.put, List.setIfInBounds_toArray, List.set_cons_zero, List.set_cons_succ, i64_w, i32_w]
                        rfl
                      refine pure_ (i := 6) (N := some 32) (v := ?_) (a' := ?_) #[true, true, true, true, true, true, true, false, false, true, false, true, true, true, false, true, false, false, false, true, false, true, true, true, false, true, false, false, false, false, false, false, false] rfl rfl (any_of HT_.out (by kernel_rfl)) (fun _ _ _ h => h) (Or.inl ⟨by rfl, ?_⟩) ?_ ?_
                      rotate_left
                      · intro w'
                        go_simp
                        with_reducible rfl
                      rotate_left
                      · simp only [Act.put, List.setIfInBounds_toArray, List.set_cons_zero, List.set_cons_succ, i64_w, i32_w]
                        rfl
                      refine pure_ (i := 7) (N := some 33) (v := ?_) (a' := ?_) #[true, true, true, true, true, true, true, true, false, true, false, true, true, true, false, true, false, false, false, true, false, true, true, true, false, true, false, false, false, false, false, false, false] rfl rfl (any_of HT_.out (by kernel_rfl)) (fun _ _ _ h => h) (Or.inl ⟨by rfl, ?_⟩) ?_ ?_
                      rotate_left
                      · intro w'
                        go_simp
                        with_reducible rfl
                      rotate_left
                      · simp only [Act.put, List.setIfInBounds_toArray, List.set_cons_zero, List.set_cons_succ, i64_w, i32_w]
                        rfl
                      refine take_ (i := 8) (N := some 34) (v := ?_) (a' := ?_) #[true, true, true, true, true, true, true, true, true, true, false, true, true, true, false, true, false, false, false, true, false, true, true, true, false, true, false, false, false, false, false, false, false] rfl rfl (take_ofW HT_.out HW_.out (by kernel_rfl)) (fun _ _ _ h => h) (Or.inl ⟨by rfl, ?_⟩) hHeld ?_ ?_
                      rotate_left
                      · rintro w' ⟨s0, s1, s2, s3, s4, s5, s6, s7, s8, s9, s10, s11⟩
                        go_simp
                        with_reducible rfl
                      rotate_left
                      · simp only [Act.put, List.setIfInBounds_toArray, List.set_cons_zero, List.set_cons_succ, i64_w, i32_w]
                        rfl
                      refine pure_ (i := 10) (N := some 36) (v := ?_) (a' := ?_) #[true, true, true, true, true, true, true, true, true, true, true, true, true, true, false, true, false, false, false, true, false, true, true, true, false, true, false, false, false, false, false, false, false] rfl rfl (any_of HT_.out (by kernel_rfl)) (fun _ _ _ h => h) (Or.inl ⟨by rfl, ?_⟩) ?_ ?_
                      rotate_left
                      · intro w'
                        go_simp
                        with_reducible rfl
                      rotate_left
                      · simp only [Act.put, List.setIfInBounds_toArray, List.set_cons_zero, List.set_cons_succ, i64_w, i32_w]
                        rfl
                      refine take_ (i := 14) (N := some 40) (v := ?_) (a' := ?_) #[true, true, true, true, true, true, true, true, true, true, true, true, true, true, true, true, false, false, false, true, false, true, true, true, false, true, false, false, false, false, false, false, false] rfl rfl (take_ofW HT_.out HW_.out (by kernel_rfl)) (fun _ _ _ h => h) (Or.inl ⟨by rfl, ?_⟩) hHeld ?_ ?_
                      rotate_left
                      · rintro w' ⟨s0, s1, s2, s3, s4, s5, s6, s7, s8, s9, s10, s11⟩
                        go_simp
                        with_reducible rfl
                      rotate_left
                      · simp only [Act.put, List.setIfInBounds_toArray, List.set_cons_zero, List.set_cons_succ, i64_w, i32_w]
                        rfl
                      refine pure_ (i := 16) (N := some 42) (v := ?_) (a' := ?_) #[true, true, true, true, true, true, true, true, true, true, true, true, true, true, true, true, true, false, false, true, false, true, true, true, false, true, false, false, false, false, false, false, false] rfl rfl (any_of HT_.out (by kernel_rfl)) (fun _ _ _ h => h) (Or.inl ⟨by rfl, ?_⟩) ?_ ?_
                      rotate_left
                      · intro w'
                        go_simp
                        with_reducible rfl
                      rotate_left
                      · simp only [Act.put, List.setIfInBounds_toArray, List.set_cons_zero, List.set_cons_succ, i64_w, i32_w]
                        rfl
                      refine pure_ (i := 17) (N := some 43) (v := ?_) (a' := ?_) #[true, true, true, true, true, true, true, true, true, true, true, true, true, true, true, true, true, true, false, true, false, true, true, true, false, true, false, false, false, false, false, false, false] rfl rfl (any_of HT_.out (by kernel_rfl)) (fun _ _ _ h => h) (Or.inl ⟨by rfl, ?_⟩) ?_ ?_
                      rotate_left
                      · intro w'
                        go_simp
                        with_reducible rfl
                      rotate_left
                      · simp only [Act.put, List.setIfInBounds_toArray, List.set_cons_zero, List.set_cons_succ, i64_w, i32_w]
                        rfl
                      refine take_ (i := 18) (N := some 44) (v := ?_) (a' := ?_) #[true, true, true, true, true, true, true, true, true, true, true, true, true, true, true, true, true, true, true, true, false, true, true, true, false, true, false, false, false, false, false, false, false] rfl rfl (take_ofW HT_.out HW_.out (by kernel_rfl)) (fun _ _ _ h => h) (Or.inl ⟨by rfl, ?_⟩) hHeld ?_ ?_
                      rotate_left
                      · rintro w' ⟨s0, s1, s2, s3, s4, s5, s6, s7, s8, s9, s10, s11⟩
                        go_simp
                        with_reducible rfl
                      rotate_left
                      · simp only [Act.put, List.setIfInBounds_toArray, List.set_cons_zero, List.set_cons_succ, i64_w, i32_w]
                        rfl
                      refine pure_ (i := 20) (N := some 46) (v := ?_) (a' := ?_) #[true, true, true, true, true, true, true, true, true, true, true, true, true, true, true, true, true, true, true, true, true, true, true, true, false, true, false, false, false, false, false, false, false] rfl rfl (any_of HT_.out (by kernel_rfl)) (fun _ _ _ h => h) (Or.inl ⟨by rfl, ?_⟩) ?_ ?_
                      rotate_left
                      · intro w'
                        go_simp
                        with_reducible rfl
                      rotate_left
                      · simp only [Act.put, List.setIfInBounds_toArray, List.set_cons_zero, List.set_cons_succ, i64_w, i32_w]
                        rfl
                      refine take_ (i := 24) (N := some 50) (v := ?_) (a' := ?_) #[true, true, true, true, true, true, true, true, true, true, true, true, true, true, true, true, true, true, true, true, true, true, true, true, true, true, false, false, false, false, false, false, false] rfl rfl (take_ofW HT_.out HW_.out (by kernel_rfl)) (fun _ _ _ h => h) (Or.inl ⟨by rfl, ?_⟩) hHeld ?_ ?_
                      rotate_left
                      · rintro w' ⟨s0, s1, s2, s3, s4, s5, s6, s7, s8, s9, s10, s11⟩
                        go_simp
                        with_reducible rfl
                      rotate_left
                      · simp only [Act.put, List.setIfInBounds_toArray, List.set_cons_zero, List.set_cons_succ, i64_w, i32_w]
                        rfl
                      refine pure_ (i := 26) (N := some 52) (v := ?_) (a' := ?_) #[true, true, true, true, true, true, true, true, true, true, true, true, true, true, true, true, true, true, true, true, true, true, true, true, true, true, true, false, false, false, false, false, false] rfl rfl (any_of HT_.out (by kernel_rfl)) (fun _ _ _ h => h) (Or.inl ⟨by rfl, ?_⟩) ?_ ?_
                      rotate_left
                      · intro w'
                        go_simp
                        with_reducible rfl
                      rotate_left
                      · simp only [Act.put, List.setIfInBounds_toArray, List.set_cons_zero, List.set_cons_succ, i64_w, i32_w]
                        rfl
                      refine pure_ (i := 27) (N := some 53) (v := ?_) (a' := ?_) #[true, true, true, true, true, true, true, true, true, true, true, true, true, true, true, true, true, true, true, true, true, true, true, true, true, true, true, true, false, false, false, false, false] rfl rfl (any_of HT_.out (by kernel_rfl)) (fun _ _ _ h => h) (Or.inl ⟨by rfl, ?_⟩) ?_ ?_
                      rotate_left
                      · intro w'
                        go_simp
                        with_reducible rfl
                      rotate_left
                      · simp only [Act.put, List.setIfInBounds_toArray, List.set_cons_zero, List.set_cons_succ, i64_w, i32_w]
                        rfl
                      refine take_ (i := 28) (N := some 54) (v := ?_) (a' := ?_) #[true, true, true, true, true, true, true, true, true, true, true, true, true, true, true, true, true, true, true, true, true, true, true, true, true, true, true, true, true, false, false, false, false] rfl rfl (take_ofW HT_.out HW_.out (by kernel_rfl)) (fun _ _ _ h => h) (Or.inl ⟨by rfl, ?_⟩) hHeld ?_ ?_
                      rotate_left
                      · rintro w' ⟨s0, s1, s2, s3, s4, s5, s6, s7, s8, s9, s10, s11⟩
                        go_simp
                        with_reducible rfl
                      rotate_left
                      · simp only [Act.put, List.setIfInBounds_toArray, List.set_cons_zero, List.set_cons_succ, i64_w, i32_w]
                        rfl
                      refine pure_ (i := 29) (N := some 55) (v := ?_) (a' := ?_) #[true, true, true, true, true, true, true, true, true, true, true, true, true, true, true, true, true, true, true, true, true, true, true, true, true, true, true, true, true, true, false, false, false] rfl rfl (any_of HT_.out (by kernel_rfl)) (fun _ _ _ h => h) (Or.inl ⟨by rfl, ?_⟩) ?_ ?_
                      rotate_left
                      · intro w'
                        go_simp
                        with_reducible rfl
                      rotate_left
                      · simp only [Act.put, List.setIfInBounds_toArray, List.set_cons_zero, List.set_cons_succ, i64_w, i32_w]
                        rfl
                      refine one_ (i := 30) (N := some 56) #[true, true, true, true, true, true, true, true, true, true, true, true, true, true, true, true, true, true, true, true, true, true, true, true, true, true, true, true, true, true, true, false, false] rfl rfl (one_of HT_.out (by kernel_rfl)) (by decide) (fun K hK => ?_)
                      refine value_ (w1 := ?_) (v := ?_) (by rfl) rfl ?_ ?_
                      rotate_left 2
                      · go_simp
                        constructor
                        · rfl
                        · rfl
                      refine hK.out _ _ ⟨(World.cell?_alloc_lt _ _ _ (World.block_lt_of_cell? _ _ (((HB.out.cell (World.block_lt_of_cell? w _ hw388_0)).trans hw388_0)))).trans (((HB.out.cell (World.block_lt_of_cell? w _ hw388_0)).trans hw388_0)), (World.cell?_alloc_lt _ _ _ (World.block_lt_of_cell? _ _ (((HB.out.cell (World.block_lt_of_cell? w _ hw389_0)).trans hw389_0)))).trans (((HB.out.cell (World.block_lt_of_cell? w _ hw389_0)).trans hw389_0)), (World.cell?_alloc_lt _ _ _ (World.block_lt_of_cell? _ _ (((HB.out.cell (World.block_lt_of_cell? w _ hw389_1)).trans hw389_1)))).trans (((HB.out.cell (World.block_lt_of_cell? w _ hw389_1)).trans hw389_1)), (World.cell?_alloc_lt _ _ _ (World.block_lt_of_cell? _ _ (((HB.out.cell (World.block_lt_of_cell? w _ hw389_2)).trans hw389_2)))).trans (((HB.out.cell (World.block_lt_of_cell? w _ hw389_2)).trans hw389_2)), (World.cell?_alloc_lt _ _ _ (World.block_lt_of_cell? _ _ (((HB.out.cell (World.block_lt_of_cell? w _ hw390_0)).trans hw390_0)))).trans (((HB.out.cell (World.block_lt_of_cell? w _ hw390_0)).trans hw390_0)), (World.cell?_alloc_lt _ _ _ (World.block_lt_of_cell? _ _ (((HB.out.cell (World.block_lt_of_cell? w _ hw391_0)).trans hw391_0)))).trans (((HB.out.cell (World.block_lt_of_cell? w _ hw391_0)).trans hw391_0)), (World.cell?_alloc_lt _ _ _ (World.block_lt_of_cell? _ _ (((HB.out.cell (World.block_lt_of_cell? w _ hw391_1)).trans hw391_1)))).trans (((HB.out.cell (World.block_lt_of_cell? w _ hw391_1)).trans hw391_1)), (World.cell?_alloc_lt _ _ _ (World.block_lt_of_cell? _ _ (((HB.out.cell (World.block_lt_of_cell? w _ hw391_2)).trans hw391_2)))).trans (((HB.out.cell (World.block_lt_of_cell? w _ hw391_2)).trans hw391_2)), (World.cell?_alloc_lt _ _ _ (World.block_lt_of_cell? _ _ (((HB.out.cell (World.block_lt_of_cell? w _ hw392_0)).trans hw392_0)))).trans (((HB.out.cell (World.block_lt_of_cell? w _ hw392_0)).trans hw392_0)), (World.cell?_alloc_lt _ _ _ (World.block_lt_of_cell? _ _ (((HB.out.cell (World.block_lt_of_cell? w _ hw393_0)).trans hw393_0)))).trans (((HB.out.cell (World.block_lt_of_cell? w _ hw393_0)).trans hw393_0)), (World.cell?_alloc_lt _ _ _ (World.block_lt_of_cell? _ _ (((HB.out.cell (World.block_lt_of_cell? w _ hw393_1)).trans hw393_1)))).trans (((HB.out.cell (World.block_lt_of_cell? w _ hw393_1)).trans hw393_1)), (World.cell?_alloc_lt _ _ _ (World.block_lt_of_cell? _ _ (((HB.out.cell (World.block_lt_of_cell? w _ hw393_2)).trans hw393_2)))).trans (((HB.out.cell (World.block_lt_of_cell? w _ hw393_2)).trans hw393_2))⟩ (fun hHeld => ?_)
                      clear hK K
                      refine norm_ (a' := ?_) ?_ ?_
                      rotate_left
                      · show Act.put _ (some 56) _ = _
                        simp only [Act.put, List.setIfInBounds_toArray, List.set_cons_zero, List.set_cons_succ, i64_w, i32_w]
                        rfl
                      refine one_ (i := 31) (N := some 57) #[true, true, true, true, true, true, true, true, true, true, true, true, true, true, true, true, true, true, true, true, true, true, true, true, true, true, true, true, true, true, true, true, false] rfl rfl (one_of HT_.out (by kernel_rfl)) (by decide) (fun K hK => ?_)
                      refine Kd.R_append_step k30 (w0 := w) w.heap.size (by rfl) (.tmp 26) (.tmp 56) 28 30 (.agg #[(.int .i64 0), (.int .i64 0), (.bool false)]) 24 rfl Tryd.underlying28 info30 rfl (by decide) (by omega) u9 x9_2 (⟨wrap64 (((rd_T30 (rd_L3 l0 x8_1) x10_2).f0) + a1), wrap64 (((rd_T30 (rd_L3 l0 x8_1) x10_2).f1) + a2), (rd_T30 (rd_L3 l0 x8_1) x10_2).f2⟩ : S30) [.int .i64 (wrap64 (((rd_T30 (rd_L3 l0 x8_1) x10_2).f0) + a1)), .int .i64 (wrap64 (((rd_T30 (rd_L3 l0 x8_1) x10_2).f1) + a2)), .bool ((rd_T30 (rd_L3 l0 x8_1) x10_2).f2)] (fun _ => True) (fun _ => False) rfl rfl ?aP (fun _ hk => hk.elim) ?aF ?aO ?aB ?aS ?aL ?_
                      (case aP => exact k30_mkM _ _ _ (⟨wrap64 (((rd_T30 (rd_L3 l0 x8_1) x10_2).f0) + a1), wrap64 (((rd_T30 (rd_L3 l0 x8_1) x10_2).f1) + a2), (rd_T30 (rd_L3 l0 x8_1) x10_2).f2⟩ : S30))
                      (case aB => exact (by repeat (first | (with_reducible first | exact HB.out | apply below_alloc | apply pw_below_drewN | apply below_drew1) | exact HB.out)))
                      (case aF => exact (fun _ _ => trivial))
                      (case aO => exact (by (with_reducible repeat (first | apply Kd.R_alloc | apply Kd.R_drewN | apply Kd.R_drew)); exact HO_9.out))
                      (case aS => exact (below_size (by repeat (first | (with_reducible first | exact HB.out | apply below_alloc | apply pw_below_drewN | apply below_drew1) | exact HB.out))))
                      (case aL => have := LMc9.out; omega)
                      intro v395 w11 ho hb hg hat
                      rw [← Ny394.out] at ho
                      have n0_ := Aside0.mk (Kd.S_after (ok := (fun _ => True)) (by (with_reducible repeat (first | apply Kd.S_alloc | apply Kd.S_drewN | apply Kd.S_drew)); exact Kd.S_mono HO_7.out (fun _ hk => ⟨trivial, hk⟩)) hg hat)
                      have n1_ := Aside0.mk (hb)
                      have n2_ := Aside0.mk (ho)
                      clear HO_7
                      clear HB
                      clear HO_9
                      have HO_7 := n0_
                      have HB := n1_
                      have HO396 := n2_
                      clear n0_ n1_ n2_
                      clear ho hb hg hat
                      refine hK.out _ _ ⟨((HB.out.cell (World.block_lt_of_cell? w _ hw388_0)).trans hw388_0), ((HB.out.cell (World.block_lt_of_cell? w _ hw389_0)).trans hw389_0), ((HB.out.cell (World.block_lt_of_cell? w _ hw389_1)).trans hw389_1), ((HB.out.cell (World.block_lt_of_cell? w _ hw389_2)).trans hw389_2), ((HB.out.cell (World.block_lt_of_cell? w _ hw390_0)).trans hw390_0), ((HB.out.cell (World.block_lt_of_cell? w _ hw391_0)).trans hw391_0), ((HB.out.cell (World.block_lt_of_cell? w _ hw391_1)).trans hw391_1), ((HB.out.cell (World.block_lt_of_cell? w _ hw391_2)).trans hw391_2), ((HB.out.cell (World.block_lt_of_cell? w _ hw392_0)).trans hw392_0), ((HB.out.cell (World.block_lt_of_cell? w _ hw393_0)).trans hw393_0), ((HB.out.cell (World.block_lt_of_cell? w _ hw393_1)).trans hw393_1), ((HB.out.cell (World.block_lt_of_cell? w _ hw393_2)).trans hw393_2)⟩ (fun hHeld => ?_)
                      clear hK K
                      refine norm_ (a' := ?_) ?_ ?_
                      rotate_left
                      · show Act.put _ (some 57) _ = _
                        simp only [Act.put, List.setIfInBounds_toArray, List.set_cons_zero, List.set_cons_succ, i64_w, i32_w]
                        rfl
                      refine pure_ (i := 32) (N := some 9) (v := ?_) (a' := ?_) #[true, true, true, true, true, true, true, true, true, true, true, true, true, true, true, true, true, true, true, true, true, true, true, true, true, true, true, true, true, true, true, true, true] rfl rfl (any_of HT_.out (by kernel_rfl)) (fun _ _ _ h => h) (Or.inl ⟨by rfl, ?_⟩) ?_ ?_
                      rotate_left
                      · intro w'
                        go_simp
                        with_reducible rfl
                      rotate_left
                      · simp only [Act.put, List.setIfInBounds_toArray, List.set_cons_zero, List.set_cons_succ, i64_w, i32_w]
                        rfl
                      refine done_ (done_of HT_.out (by kernel_rfl)) ?_
                      try go_wp2
                      go_roundg k2
                      case measure => have := HK1.out; have := HK2.out; omega
                      case rel => exact ⟨(y394), (wrap64 (x10_2 + 1)), (by first | rfl | (simp; done) | (simp [*]; done)), H', ⟨by have := HK1.out; have := HK2.out; omega⟩, ⟨by (with_reducible repeat (first | apply Kd.S_alloc | apply Kd.S_drewN | apply Kd.S_drew)); exact Kd.S_mono HO_7.out (fun _ hk => hk.2)⟩, ⟨by (with_reducible repeat (first | apply Kd.R_alloc | apply Kd.R_drewN | apply Kd.R_drew)); exact HO396.out⟩, ⟨by repeat (first | (with_reducible first | exact HB.out | apply below_alloc | apply pw_below_drewN | apply below_drew1) | exact HB.out)⟩⟩
                    · rw [if_neg c9] at H
                      exact absurd H (by simp)
                  · rw [if_neg c8] at H
                    exact absurd H (by simp)
                · rw [if_neg c7] at H
                  have c7b0 : decide (x10_2 < ((rd_L3 l0 x8_1).length : Int)) = false := decide_eq_false c7
                  clear c7
                  by_cases c12 : x7_1.length < 5864062014805
                  · rw [if_pos c12] at H
                    have LMc12 := Aside0.mk c12
                    clear c12
                    obtain ⟨y397, hy397⟩ : ∃ y_ : List (List (S30)), y_ = (x7_1 ++ [x9_2]) := ⟨_, rfl⟩
                    replace H : (abugidalaw11_moved.l0 k2 l0 a1 a2 y397 (wrap64 (x8_1 + 1))) = some r := by first | (rw [hy397]; with_reducible exact H) | (have H2_ := (Option.bind_some _ _).symm.trans H; rw [hy397]; with_reducible exact H2_) | (have H2_ := (Option.bind_some _ _).symm.trans H; with_reducible exact H2_) | with_reducible exact H | (rw [hy397]; exact H) | exact H
                    have Ny397 := Aside0.mk hy397
                    clear hy397
                    have H' := Aside0.mk H
                    clear H
                    have p387 : 0 ≤ (x8_1 : Int) := of_decide_eq_true (by first | (with_reducible assumption) | assumption)
                    have q387 : x8_1 < (l0.length : Int) := of_decide_eq_true (by first | (with_reducible assumption) | assumption)
                    obtain ⟨ad387, A387_0, c387_0, e387, hx387_0, hl387_0, hi387_0⟩ := at_L3 HR0.out x8_1 p387 q387
                    cases e387
                    replace hx387_0 := (HB.out.cell (World.block_lt_of_cell? w _ hx387_0)).trans hx387_0
                    have HR387_0 := Aside0.mk hi387_0
                    have HC387_0 := Aside0.mk hl387_0
                    clear hi387_0 hl387_0
                    replace p387 := eq_true p387
                    replace q387 := eq_true q387
                    obtain ⟨Ao14, co14, eo14⟩ := Kd.R_slice HO_9.out
                    subst eo14
                    go_wp2_with (first | ((with_reducible refine gate_builtin (b := .append) (xs := #[.tmp 58, .tmp 60]) rfl ?_); at_builtin; refine Kd.S_append (Kd.slice 30 k30) (w0 := w) w.heap.size rfl (.tmp 58) (.tmp 60) 23 28 (.slice none 0 0) 24 rfl Tryd.underlying23 info28 rfl (by decide) (by omega) u7 x7_1 x9_2 [.slice Ao14 x9_2.length co14] (fun _ => True) (fun k_ => some k_ = (.slice Ao14 x9_2.length co14 : Value).ownBlock) rfl rfl ?aP (fun k_ hk_ => ((Kd.R_mono (ok' := fun k_ => ((fun _ => True)) k_ ∧ some k_ ≠ (u7 : Value).ownBlock) (Kd.R_apart' (HO_9.out) (Kd.S_typed HO_7.out) (by decide)) (fun k_ hk => ⟨trivial, hk.2⟩))).1 k_ hk_.symm) ?aF ?aO ?aB ?aS ?aL ?_; (case aP => exact Kd.M_row (Kd.R_mono (Kd.R_tight rfl (Kd.R_mono (ok' := fun k_ => ((fun _ => True)) k_ ∧ some k_ ≠ (u7 : Value).ownBlock) (Kd.R_apart' (HO_9.out) (Kd.S_typed HO_7.out) (by decide)) (fun k_ hk => ⟨trivial, hk.2⟩))) (fun _ h_ => h_))); (case aB => exact (by repeat (first | (with_reducible first | exact HB.out | apply below_alloc | apply pw_below_drewN | apply below_drew1) | exact HB.out))); (case aF => exact (fun _ _ => trivial)); (case aO => exact (by (with_reducible repeat (first | apply Kd.S_alloc | apply Kd.S_drewN | apply Kd.S_drew)); exact Kd.S_mono HO_7.out (fun k_ hk => ⟨trivial, fun e_ => hk e_⟩))); (case aS => exact (below_size (by repeat (first | (with_reducible first | exact HB.out | apply below_alloc | apply pw_below_drewN | apply below_drew1) | exact HB.out)))); (case aL => have := LMc12.out; omega); intro v398 w13 ho hb hg hat; rw [← Ny397.out] at ho; have n0_ := Aside0.mk (hb); have n1_ := Aside0.mk (ho); clear HB; clear HO_7; clear HO_9; have HB := n0_; have HO399 := n1_; clear n0_ n1_; clear ho hb hg hat))
                    go_roundg k2
                    case measure => have := HK1.out; have := HK2.out; omega
                    case rel => exact ⟨(y397), (wrap64 (x8_1 + 1)), (by first | rfl | (simp; done) | (simp [*]; done)), H', ⟨by have := HK1.out; have := HK2.out; omega⟩, ⟨by (with_reducible repeat (first | apply Kd.S_alloc | apply Kd.S_drewN | apply Kd.S_drew)); exact HO399.out⟩, ⟨by repeat (first | (with_reducible first | exact HB.out | apply below_alloc | apply pw_below_drewN | apply below_drew1) | exact HB.out)⟩⟩
                  · rw [if_neg c12] at H
                    exact absurd H (by simp)
              · rw [if_neg c6] at H
                exact absurd H (by simp)
            · rw [if_neg c5] at H
              exact absurd H (by simp)
      · rw [if_neg c4] at H
        have c4b0 : decide (x8_1 < (l0.length : Int)) = false := decide_eq_false c4
        clear c4
        obtain rfl := Option.some.inj H
        go_wp2
        go_ret
        exact ⟨_, by first | rfl | (simp [errW_none, errW_some] <;> rfl) | (simp [*, errW_none, errW_some] <;> rfl), by (with_reducible repeat (first | apply Kd.S_alloc | apply Kd.S_drewN | apply Kd.S_drew)); exact HO_7.out, by repeat (first | (with_reducible first | exact HB.out | apply below_alloc | apply pw_below_drewN | apply below_drew1) | exact HB.out)⟩

-- NOT PRINTED: function 6 (abugidalaw11_ScanMoves)

-- NOT PRINTED: function 7 (abugidalaw11_ScanTurns)

-- NOT PRINTED: function 8 (abugidalaw11_ScanMiddles)

-- NOT PRINTED: function 9 (abugidalaw11_ScanBoxes)

-- NOT PRINTED: function 26 (abugidaref11_Drawn)

-- NOT PRINTED: function 10 (abugidalaw11_ScanJoins)

end Go.Proofs.YtleljodcdbhifaaDoor.Hy
