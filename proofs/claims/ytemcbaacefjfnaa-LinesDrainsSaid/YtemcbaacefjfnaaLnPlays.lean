/- The walk of LinesPlays. -/
import Derived.Test.YtemcbaacefjfnaaLnPr
import Derived.Test.YtemcbaacefjfnaaLnOwn
set_option linter.unusedVariables false
set_option linter.unusedSimpArgs false
namespace Go.Proofs.Ytemcbaacefjfnaa
open Go.RowKit Go.Proofs.YtemcbaacefjfnaaW.PrintWords Go.Proofs.YtemcbaacefjfnaaW.PrintLast

theorem sendL_le9 (n : Int) (k : Nat) (c : List Tb) (d a b : Int) (t : ByteArray) : (sendL n k c d a b t).length ≤ 9 := by
  unfold sendL
  split
  · simp
  · have hc : copiesOf (tbAt c k) ≤ 9 := by unfold copiesOf clampI; omega
    simpa using hc
theorem nrest_len (m : List Wt) : (nrest m).length ≤ m.length := by
  unfold nrest
  split
  · simp
  · exact List.length_erase_le
/-- the state of both lists in a round -/
def PL (w : World) (A : Nat → Prop) (la lr : Nat) (n : Int) (sc : List Tb) (k : Nat) : Prop :=
  ∃ s m, PR w A la n s sc m lr n s sc m ∧ s ≤ k ∧ m.length ≤ 9 * k
def lnPlays.T9 : Bool × List (List Nat × List Nat) := (true, [([], []), ([], []), ([], []), ([1, 2], [1, 2]), ([3], [3]), ([4], [4]), ([], []), ([], []), ([6, 7], [6, 7]), ([8], [8]), ([9], [9]), ([0, 5, 10], [0, 5, 10])])
def lnPlays.B9 : List Nat := [0, 0, 0, 6, 14, 30, 0, 0, 192, 448, 960, 2047]
theorem lnPlays.tab9 : rtab .any (opsOf Try.f3 9) = lnPlays.T9 := by kernel_rfl
theorem lnPlays.bits9 : waitsOk lnPlays.T9.2 lnPlays.B9 = true := by kernel_rfl
def lnPlays.T10 : Bool × List (List Nat × List Nat) := (true, [([], []), ([], []), ([], []), ([1, 2], [1, 2]), ([3], [3]), ([4], [4]), ([], []), ([], []), ([6, 7], [6, 7]), ([8], [8]), ([9], [9]), ([0, 5, 10], [0, 5, 10])])
def lnPlays.B10 : List Nat := [0, 0, 0, 6, 14, 30, 0, 0, 192, 448, 960, 2047]
theorem lnPlays.tab10 : rtab .any (opsOf Try.f3 10) = lnPlays.T10 := by kernel_rfl
theorem lnPlays.bits10 : waitsOk lnPlays.T10.2 lnPlays.B10 = true := by kernel_rfl

set_option maxRecDepth 100000 in
set_option maxHeartbeats 4000000 in
theorem linesPlays_walk (n : Int) (vo : Option Addr) (vl vc : Nat) (scr : List Tb) (ao : Option Addr) (len c : Nat) (tk : Nat → Bool) (du sr ds : Nat → Int) (tx : Nat → ByteArray) (w0 : World)
    (hS : SRA w0 (.slice vo vl vc) scr) (hvl : vl = scr.length) (hvc : vl ≤ vc) (hvm : vl ≤ maxLen)
    (hV : ∀ i, i < len → ∃ a, ao = some a ∧ a.block < w0.heap.size ∧ w0.cell? (a.add (i * 5)) = some (.bool (tk i)) ∧ w0.cell? (a.add (i * 5 + 1)) = some (.int .i64 (du i)) ∧ w0.cell? (a.add (i * 5 + 2)) = some (.int .i64 (sr i)) ∧ w0.cell? (a.add (i * 5 + 3)) = some (.int .i64 (ds i)) ∧ w0.cell? (a.add (i * 5 + 4)) = some (.string (tx i))) (hl : len ≤ maxLen) :
    Calls Try.prog 3 #[.int .i64 n, .slice vo vl vc, .slice ao len c] w0 fun e w' => e = .returned (.bool true) ∧ Below w0.heap.size w0 w' := by
  have V := Lib.hid hV
  have VL := Lib.hid (And.intro hvl hvc)
  have S0 := Lib.hid hS
  clear hV hvl hvc hS
  go_enter Try.func3, Try.ntmps3
  go_wp2_with fail
  refine (sanity_any _).mono ?_
  rintro e w1 ⟨rfl, b1⟩
  have H1 := Lib.hid b1
  obtain ⟨so, sl, hsh, hss⟩ : ∃ so sl, (∀ w, Calls Try.prog 12 #[.slice vo vl vc] w fun e w' => e = .returned (.slice so sl vc) ∧ w = w') ∧ SRA w1 (.slice so sl vc) (scr.take 40) := by
    rcases S0.out with ⟨h, h2⟩ | ⟨a, c', h, h3, h4⟩
    · cases h
      subst h2
      exact ⟨none, 0, fun w => short_nil w, .inl ⟨rfl, rfl⟩⟩
    · cases h
      refine ⟨some a, min scr.length 40, fun w => short_some a _ vc VL.out.2 w, .inr ⟨a, vc, by simp [Nat.min_comm], fun e => Nat.lt_of_lt_of_le (h3 (fun e2 => e (by rw [e2]; rfl))) H1.out.size, ?_⟩⟩
      intro j u hu
      have hb : (a.add j).block = a.block := by unfold Addr.add; split <;> rfl
      have e : flatT scr = flatT (scr.take 40) ++ flatT (scr.drop 40) := by simp only [flatT]; rw [← List.flatMap_append, List.take_append_drop]
      have hu2 : (flatT scr)[j]? = some u := by rw [e, List.getElem?_append_left (List.getElem?_eq_some_iff.1 hu).1]; exact hu
      rw [H1.out.cell (by rw [hb]; exact h3 (flatT_ne hu2))]
      exact h4 _ _ hu2
  have hf : (scr.take 40).length ≤ 1000 := by simp; omega
  generalize scr.take 40 = sc at *
  have SH := Lib.hid hsh
  have SS := Lib.hid hss
  have HF := Lib.hid hf
  clear hsh hss hf b1 S0 VL
  go_wp2_with fail
  refine (SH.out _).mono ?_
  rintro e w' ⟨rfl, rfl⟩
  go_wp2_with fail
  refine (lw_sra n _ sc w1 SS.out HF.out).mono ?_
  rintro e w3 ⟨la, rfl, a1, a2⟩
  have LA := Lib.hid (a1.mono (A' := fun i => i < w0.heap.size) (fun i hi h => Nat.lt_of_lt_of_le h H1.out.size))
  have H3 := Lib.hid (bthen' H1.out a2)
  have SS3 : Hid (SRA w3 (.slice so sl vc) sc) := Lib.hid (SS.out.touch (Touch.of_below (s := fun _ => False) a2) (fun _ _ => id))
  clear a1 a2 SS H1
  go_wp2_with fail
  refine (SH.out _).mono ?_
  rintro e w' ⟨rfl, rfl⟩
  go_wp2_with fail
  refine (pr_new (fun i => i < w0.heap.size) la n 0 sc [] n _ sc w3 LA.out SS3.out HF.out (fun i h => Nat.lt_of_lt_of_le h H3.out.size)).mono ?_
  rintro e w4 ⟨lr, rfl, a1, a2⟩
  have L4 := Lib.hid (show PL w4 (fun i => i < w0.heap.size) la lr n sc 0 from ⟨0, [], a1, by omega, by simp⟩)
  have H4 := Lib.hid (bthen' H3.out a2)
  clear a1 a2 LA H3 SS3 SH
  go_wp2_with fail
  go_loopw [10] (fun i wr => ∃ k : Nat, i = .int .i64 k ∧ k ≤ 60 ∧ Hid (PL wr (fun i => i < w0.heap.size) la lr n sc k) ∧ Hid (Below w0.heap.size w0 wr)) (fun i _ => 60 - (intOf i).toNat)
  case atStart => exact ⟨0, rfl, by omega, L4, H4⟩
  case round =>
    clear L4 H4
    generalize wr = wo at *
    obtain ⟨j, rfl, hj, L, H⟩ := hrel
    by_cases hc : j < len ∧ j < 60
    · obtain ⟨h1, h2⟩ := hc
      obtain ⟨ad, rfl, hab, t0, t1, t2, t3, t4⟩ := V.out j h1
      have hb : (ad.add (j * 5)).block = ad.block := by unfold Addr.add; split <;> rfl
      rw [add_field _ _ 1 (by omega)] at t1
      rw [add_field _ _ 2 (by omega)] at t2
      rw [add_field _ _ 3 (by omega)] at t3
      rw [add_field _ _ 4 (by omega)] at t4
      have hab2 : (ad.add (j * 5)).block < w0.heap.size := by rw [hb]; exact hab
      have T0 := Aside0.mk (And.intro hab2 (And.intro t0 (And.intro t1 (And.intro t2 (And.intro t3 t4)))))
      have ed : decide (j < len) = true := by simpa using h1
      have ed2 : decide ((j : Int) < 60) = true := by simp; omega
      have y1 : (0 : Int) ≤ (j : Int) := by omega
      have y2 : (j : Int) < (len : Int) := by omega
      have z0 := Aside0.mk y1
      have z1 := Aside0.mk (show (j : Int) < 60 by omega)
      have z2 := Aside0.mk y2
      have c0 : wo.cell? (ad.add (j * 5)) = some (.bool (tk j)) := (H.out.cell hab2).trans t0
      obtain ⟨s, m, hL, hs, hm⟩ := L.out
      have q0 := Aside0.mk (And.intro hs hm)
      have L3 := Aside0.mk hL
      have H3 := Aside0.mk H.out
      clear t0 t1 t2 t3 t4 hb hab hab2 L H hL hs hm
      by_cases htk : tk j = true
      · rw [htk] at c0
        go_wp2_with fail
        refine (same_any (fun i => i < w0.heap.size) la lr s n sc m _ L3.out (by have := q0.out.2; have := z1.out; omega) (fun i h => Nat.lt_of_lt_of_le h H3.out.size)).mono ?_
        rintro e w5 ⟨rfl, a1, a2⟩
        have L5 := Lib.hid (show PL w5 (fun i => i < w0.heap.size) la lr n sc (j + 1) from ⟨s, _, a1, by have := q0.out.1; omega, by have := q0.out.2; have := nrest_len m; omega⟩)
        have H5 := Lib.hid (H3.out.trans (a2.below H3.out.size (fun i h => Nat.le_of_not_lt h)))
        clear a1 a2 L3 H3
        go_wp2_with fail
        go_roundw
        case rel => exact ⟨j + 1, rfl, by have := z1.out; omega, L5, H5⟩
        case measure => have := z1.out; simp [intOf]; omega
      · have htk2 : tk j = false := by simpa using htk
        rw [htk2] at c0
        clear htk
        go_wp2_with fail
        clear c0 y1 y2
        refine start_ (n := 12) (S := fun w' => True) (ds := []) #[false, false, false, false, false, false, false, false, false, false, false, false] (by kernel_rfl) rfl rfl trivial (fun hHeld => ?_)
        refine with_tabW lnPlays.tab9 lnPlays.bits9 (fun HT_ HW_ => ?_)
        have L : Aside0 (PR wo.drew (fun i => i < w0.heap.size) la n s sc m lr n s sc m) := ⟨L3.out.quiet (bdrew (Below.refl _ wo))⟩
        have H : Aside0 (Below w0.heap.size w0 wo.drew) := ⟨bdrew H3.out⟩
        generalize wo.drew = w1' at *
        refine inv_at [0, 1, 2, 3, 4, 5, 6, 7, 8, 9, 10, 11] (fun a0_ b a w' => a = putSel a0_ b [(0, 40, .pointer (some ⟨la, 0, none⟩)), (1, 41, .slice (some ad) len c), (2, 42, .int .i64 (j : Int)), (3, 43, .pointer (some (ad.add (j * 5)))), (4, 44, .pointer (some ⟨(ad.add (j * 5)).block, (ad.add (j * 5)).off + 1, none⟩)), (5, 45, .int .i64 (du j)), (6, 46, .slice (some ad) len c), (7, 47, .int .i64 (j : Int)), (8, 48, .pointer (some (ad.add (j * 5)))), (9, 49, .pointer (some ⟨(ad.add (j * 5)).block, (ad.add (j * 5)).off + 2, none⟩)), (10, 50, .agg #[.int .i64 (sr j), .int .i64 (ds j), .string (tx j)]), (11, 51, .tuple #[])] ∧ (b 11 = false → PR w' (fun i => i < w0.heap.size) la n s sc m lr n s sc m) ∧ (Below w0.heap.size w0 w') ∧ (b 11 = true → PR w' (fun i => i < w0.heap.size) la n (s + 1) sc (m ++ sendL n s sc (du j) (sr j) (ds j) (tx j)) lr n s sc m)) HT_.out HW_.out (by kernel_rfl) (by kernel_rfl) ?_ ?_ ?_
        · exact ⟨by simp only [putSel, Bool.false_eq_true, if_false], fun _ => L.out, H.out, fun h_ => absurd h_ (by decide)⟩
        · skip
          clear H L
          refine steps_cons ?_ ?_
          · rintro b a w' ⟨ha, Q_L, Q_H, Q_L9⟩ hb_ hon hoff
            refine ⟨_, rfl, fun K hK => ?_⟩
            have e8 : a.tmps[8]? = some (.pointer (some ⟨la, 0, none⟩)) := by rw [ha]; exact (putSel_off rfl).trans rfl
            replace ha := Aside0.mk ha
            have L := Aside0.mk (Q_L (hoff 11 (by kernel_rfl)))
            have H := Aside0.mk Q_H
            refine value_ (w1 := w') (v := .pointer (some ⟨la, 0, none⟩)) (by rfl) rfl ?_ ?_
            · go_simp
              (try simp only [i64_w])
              try rfl
            refine hK.out _ _ ⟨(by rw [ha.out]; exact putSel_upk 0 hb_ rfl rfl rfl), Q_L, Q_H, fun h0_ => absurd ((hoff 11 (by kernel_rfl)).symm.trans h0_) (by decide)⟩
          refine steps_cons ?_ ?_
          · rintro b a w' ⟨ha, Q_L, Q_H, Q_L9⟩ hb_ hon hoff
            refine ⟨_, rfl, fun K hK => ?_⟩
            have e2 : a.tmps[2]? = some (.slice (some ad) len c) := by rw [ha]; exact (putSel_off rfl).trans rfl
            replace ha := Aside0.mk ha
            have L := Aside0.mk (Q_L (hoff 11 (by kernel_rfl)))
            have H := Aside0.mk Q_H
            refine value_ (w1 := w') (v := .slice (some ad) len c) (by rfl) rfl ?_ ?_
            · go_simp
              (try simp only [i64_w])
              try rfl
            refine hK.out _ _ ⟨(by rw [ha.out]; exact putSel_upk 1 hb_ rfl rfl rfl), Q_L, Q_H, fun h0_ => absurd ((hoff 11 (by kernel_rfl)).symm.trans h0_) (by decide)⟩
          refine steps_cons ?_ ?_
          · rintro b a w' ⟨ha, Q_L, Q_H, Q_L9⟩ hb_ hon hoff
            refine ⟨_, rfl, fun K hK => ?_⟩
            have e10 : a.tmps[10]? = some (.int .i64 (j : Int)) := by rw [ha]; exact (putSel_off rfl).trans rfl
            replace ha := Aside0.mk ha
            have L := Aside0.mk (Q_L (hoff 11 (by kernel_rfl)))
            have H := Aside0.mk Q_H
            refine value_ (w1 := w') (v := .int .i64 (j : Int)) (by rfl) rfl ?_ ?_
            · go_simp
              (try simp only [i64_w])
              try rfl
            refine hK.out _ _ ⟨(by rw [ha.out]; exact putSel_upk 2 hb_ rfl rfl rfl), Q_L, Q_H, fun h0_ => absurd ((hoff 11 (by kernel_rfl)).symm.trans h0_) (by decide)⟩
          refine steps_cons ?_ ?_
          · rintro b a w' ⟨ha, Q_L, Q_H, Q_L9⟩ hb_ hon hoff
            refine ⟨_, rfl, fun K hK => ?_⟩
            have e41 : a.tmps[41]? = some (.slice (some ad) len c) := by rw [ha]; exact putSel_on (e := (1, 41, .slice (some ad) len c)) 1 rfl rfl (hon 1 (by kernel_rfl)) rfl
            have e42 : a.tmps[42]? = some (.int .i64 (j : Int)) := by rw [ha]; exact putSel_on (e := (2, 42, .int .i64 (j : Int))) 2 rfl rfl (hon 2 (by kernel_rfl)) rfl
            replace ha := Aside0.mk ha
            have L := Aside0.mk (Q_L (hoff 11 (by kernel_rfl)))
            have H := Aside0.mk Q_H
            have y0 := z0.out
            have y1 := z2.out
            refine value_ (w1 := w') (v := .pointer (some (ad.add (j * 5)))) (by rfl) rfl ?_ ?_
            · go_simp
              (try simp only [i64_w])
              try rfl
            refine hK.out _ _ ⟨(by rw [ha.out]; exact putSel_upk 3 hb_ rfl rfl rfl), Q_L, Q_H, fun h0_ => absurd ((hoff 11 (by kernel_rfl)).symm.trans h0_) (by decide)⟩
          refine steps_cons ?_ ?_
          · rintro b a w' ⟨ha, Q_L, Q_H, Q_L9⟩ hb_ hon hoff
            refine ⟨_, rfl, fun K hK => ?_⟩
            have e43 : a.tmps[43]? = some (.pointer (some (ad.add (j * 5)))) := by rw [ha]; exact putSel_on (e := (3, 43, .pointer (some (ad.add (j * 5))))) 3 rfl rfl (hon 3 (by kernel_rfl)) rfl
            replace ha := Aside0.mk ha
            have L := Aside0.mk (Q_L (hoff 11 (by kernel_rfl)))
            have H := Aside0.mk Q_H
            refine value_ (w1 := w') (v := .pointer (some ⟨(ad.add (j * 5)).block, (ad.add (j * 5)).off + 1, none⟩)) (by rfl) rfl ?_ ?_
            · go_simp
              (try simp only [i64_w])
              try rfl
            refine hK.out _ _ ⟨(by rw [ha.out]; exact putSel_upk 4 hb_ rfl rfl rfl), Q_L, Q_H, fun h0_ => absurd ((hoff 11 (by kernel_rfl)).symm.trans h0_) (by decide)⟩
          refine steps_cons ?_ ?_
          · rintro b a w' ⟨ha, Q_L, Q_H, Q_L9⟩ hb_ hon hoff
            refine ⟨_, rfl, fun K hK => ?_⟩
            have e44 : a.tmps[44]? = some (.pointer (some ⟨(ad.add (j * 5)).block, (ad.add (j * 5)).off + 1, none⟩)) := by rw [ha]; exact putSel_on (e := (4, 44, .pointer (some ⟨(ad.add (j * 5)).block, (ad.add (j * 5)).off + 1, none⟩))) 4 rfl rfl (hon 4 (by kernel_rfl)) rfl
            replace ha := Aside0.mk ha
            have L := Aside0.mk (Q_L (hoff 11 (by kernel_rfl)))
            have H := Aside0.mk Q_H
            have e1 : w'.cell? ⟨(ad.add (j * 5)).block, (ad.add (j * 5)).off + 1, none⟩ = some (.int .i64 (du j)) := (H.out.cell (show (⟨(ad.add (j * 5)).block, (ad.add (j * 5)).off + 1, none⟩ : Addr).block < w0.heap.size from T0.out.1)).trans T0.out.2.2.1
            refine value_ (w1 := w') (v := .int .i64 (du j)) (by rfl) rfl ?_ ?_
            · go_simp
              (try simp only [i64_w])
              try rfl
            refine hK.out _ _ ⟨(by rw [ha.out]; exact putSel_upk 5 hb_ rfl rfl rfl), Q_L, Q_H, fun h0_ => absurd ((hoff 11 (by kernel_rfl)).symm.trans h0_) (by decide)⟩
          refine steps_cons ?_ ?_
          · rintro b a w' ⟨ha, Q_L, Q_H, Q_L9⟩ hb_ hon hoff
            refine ⟨_, rfl, fun K hK => ?_⟩
            have e2 : a.tmps[2]? = some (.slice (some ad) len c) := by rw [ha]; exact (putSel_off rfl).trans rfl
            replace ha := Aside0.mk ha
            have L := Aside0.mk (Q_L (hoff 11 (by kernel_rfl)))
            have H := Aside0.mk Q_H
            refine value_ (w1 := w') (v := .slice (some ad) len c) (by rfl) rfl ?_ ?_
            · go_simp
              (try simp only [i64_w])
              try rfl
            refine hK.out _ _ ⟨(by rw [ha.out]; exact putSel_upk 6 hb_ rfl rfl rfl), Q_L, Q_H, fun h0_ => absurd ((hoff 11 (by kernel_rfl)).symm.trans h0_) (by decide)⟩
          refine steps_cons ?_ ?_
          · rintro b a w' ⟨ha, Q_L, Q_H, Q_L9⟩ hb_ hon hoff
            refine ⟨_, rfl, fun K hK => ?_⟩
            have e10 : a.tmps[10]? = some (.int .i64 (j : Int)) := by rw [ha]; exact (putSel_off rfl).trans rfl
            replace ha := Aside0.mk ha
            have L := Aside0.mk (Q_L (hoff 11 (by kernel_rfl)))
            have H := Aside0.mk Q_H
            refine value_ (w1 := w') (v := .int .i64 (j : Int)) (by rfl) rfl ?_ ?_
            · go_simp
              (try simp only [i64_w])
              try rfl
            refine hK.out _ _ ⟨(by rw [ha.out]; exact putSel_upk 7 hb_ rfl rfl rfl), Q_L, Q_H, fun h0_ => absurd ((hoff 11 (by kernel_rfl)).symm.trans h0_) (by decide)⟩
          refine steps_cons ?_ ?_
          · rintro b a w' ⟨ha, Q_L, Q_H, Q_L9⟩ hb_ hon hoff
            refine ⟨_, rfl, fun K hK => ?_⟩
            have e46 : a.tmps[46]? = some (.slice (some ad) len c) := by rw [ha]; exact putSel_on (e := (6, 46, .slice (some ad) len c)) 6 rfl rfl (hon 6 (by kernel_rfl)) rfl
            have e47 : a.tmps[47]? = some (.int .i64 (j : Int)) := by rw [ha]; exact putSel_on (e := (7, 47, .int .i64 (j : Int))) 7 rfl rfl (hon 7 (by kernel_rfl)) rfl
            replace ha := Aside0.mk ha
            have L := Aside0.mk (Q_L (hoff 11 (by kernel_rfl)))
            have H := Aside0.mk Q_H
            have y0 := z0.out
            have y1 := z2.out
            refine value_ (w1 := w') (v := .pointer (some (ad.add (j * 5)))) (by rfl) rfl ?_ ?_
            · go_simp
              (try simp only [i64_w])
              try rfl
            refine hK.out _ _ ⟨(by rw [ha.out]; exact putSel_upk 8 hb_ rfl rfl rfl), Q_L, Q_H, fun h0_ => absurd ((hoff 11 (by kernel_rfl)).symm.trans h0_) (by decide)⟩
          refine steps_cons ?_ ?_
          · rintro b a w' ⟨ha, Q_L, Q_H, Q_L9⟩ hb_ hon hoff
            refine ⟨_, rfl, fun K hK => ?_⟩
            have e48 : a.tmps[48]? = some (.pointer (some (ad.add (j * 5)))) := by rw [ha]; exact putSel_on (e := (8, 48, .pointer (some (ad.add (j * 5))))) 8 rfl rfl (hon 8 (by kernel_rfl)) rfl
            replace ha := Aside0.mk ha
            have L := Aside0.mk (Q_L (hoff 11 (by kernel_rfl)))
            have H := Aside0.mk Q_H
            refine value_ (w1 := w') (v := .pointer (some ⟨(ad.add (j * 5)).block, (ad.add (j * 5)).off + 2, none⟩)) (by rfl) rfl ?_ ?_
            · go_simp
              (try simp only [i64_w])
              try rfl
            refine hK.out _ _ ⟨(by rw [ha.out]; exact putSel_upk 9 hb_ rfl rfl rfl), Q_L, Q_H, fun h0_ => absurd ((hoff 11 (by kernel_rfl)).symm.trans h0_) (by decide)⟩
          refine steps_cons ?_ ?_
          · rintro b a w' ⟨ha, Q_L, Q_H, Q_L9⟩ hb_ hon hoff
            refine ⟨_, rfl, fun K hK => ?_⟩
            have e49 : a.tmps[49]? = some (.pointer (some ⟨(ad.add (j * 5)).block, (ad.add (j * 5)).off + 2, none⟩)) := by rw [ha]; exact putSel_on (e := (9, 49, .pointer (some ⟨(ad.add (j * 5)).block, (ad.add (j * 5)).off + 2, none⟩))) 9 rfl rfl (hon 9 (by kernel_rfl)) rfl
            replace ha := Aside0.mk ha
            have L := Aside0.mk (Q_L (hoff 11 (by kernel_rfl)))
            have H := Aside0.mk Q_H
            have e2 : w'.cell? ⟨(ad.add (j * 5)).block, (ad.add (j * 5)).off + 2, none⟩ = some (.int .i64 (sr j)) := (H.out.cell (show (⟨(ad.add (j * 5)).block, (ad.add (j * 5)).off + 2, none⟩ : Addr).block < w0.heap.size from T0.out.1)).trans T0.out.2.2.2.1
            have e3 : w'.cell? ⟨(ad.add (j * 5)).block, (ad.add (j * 5)).off + 3, none⟩ = some (.int .i64 (ds j)) := (H.out.cell (show (⟨(ad.add (j * 5)).block, (ad.add (j * 5)).off + 3, none⟩ : Addr).block < w0.heap.size from T0.out.1)).trans T0.out.2.2.2.2.1
            have e4 : w'.cell? ⟨(ad.add (j * 5)).block, (ad.add (j * 5)).off + 4, none⟩ = some (.string (tx j)) := (H.out.cell (show (⟨(ad.add (j * 5)).block, (ad.add (j * 5)).off + 4, none⟩ : Addr).block < w0.heap.size from T0.out.1)).trans T0.out.2.2.2.2.2
            refine value_ (w1 := w') (v := .agg #[.int .i64 (sr j), .int .i64 (ds j), .string (tx j)]) (by rfl) rfl ?_ ?_
            · go_simp
              (try simp only [i64_w])
              try rfl
            refine hK.out _ _ ⟨(by rw [ha.out]; exact putSel_upk 10 hb_ rfl rfl rfl), Q_L, Q_H, fun h0_ => absurd ((hoff 11 (by kernel_rfl)).symm.trans h0_) (by decide)⟩
          refine steps_cons ?_ ?_
          · rintro b a w' ⟨ha, Q_L, Q_H, Q_L9⟩ hb_ hon hoff
            refine ⟨_, rfl, fun K hK => ?_⟩
            have e40 : a.tmps[40]? = some (.pointer (some ⟨la, 0, none⟩)) := by rw [ha]; exact putSel_on (e := (0, 40, .pointer (some ⟨la, 0, none⟩))) 0 rfl rfl (hon 0 (by kernel_rfl)) rfl
            have e45 : a.tmps[45]? = some (.int .i64 (du j)) := by rw [ha]; exact putSel_on (e := (5, 45, .int .i64 (du j))) 5 rfl rfl (hon 5 (by kernel_rfl)) rfl
            have e50 : a.tmps[50]? = some (.agg #[.int .i64 (sr j), .int .i64 (ds j), .string (tx j)]) := by rw [ha]; exact putSel_on (e := (10, 50, .agg #[.int .i64 (sr j), .int .i64 (ds j), .string (tx j)])) 10 rfl rfl (hon 10 (by kernel_rfl)) rfl
            replace ha := Aside0.mk ha
            have L := Aside0.mk (Q_L hb_)
            have H := Aside0.mk Q_H
            refine call_ 15 #[.pointer (some ⟨la, 0, none⟩), .int .i64 (du j), .agg #[.int .i64 (sr j), .int .i64 (ds j), .string (tx j)]] (by rfl) rfl ?_ ?_
            · go_simp
            refine (pr_send (fun i => i < w0.heap.size) la n s sc m lr n s sc m (du j) (sr j) (ds j) (tx j) w' L.out (by have := z1.out; have := q0.out.1; omega) (by have := z1.out; have := q0.out.2; omega) HF.out (fun i h => Nat.lt_of_lt_of_le h H.out.size)).mono ?_
            rintro e w2 ⟨rfl, a1, a2⟩
            refine ⟨_, rfl, ?_⟩
            refine hK.out _ _ ⟨(by rw [ha.out]; exact putSel_upk 11 hb_ rfl rfl rfl), fun h0_ => absurd ((up_self b 11).symm.trans h0_) (by decide), H.out.trans (a2.below H.out.size (fun i h => Nat.le_of_not_lt h)), fun _ => a1⟩
          exact steps_nil
        · rintro b a w' hall ⟨ha, Q_L, Q_H, Q_L9⟩
          clear H L
          have hb0_ := hall 0 (by kernel_rfl)
          have hb1_ := hall 1 (by kernel_rfl)
          have hb2_ := hall 2 (by kernel_rfl)
          have hb3_ := hall 3 (by kernel_rfl)
          have hb4_ := hall 4 (by kernel_rfl)
          have hb5_ := hall 5 (by kernel_rfl)
          have hb6_ := hall 6 (by kernel_rfl)
          have hb7_ := hall 7 (by kernel_rfl)
          have hb8_ := hall 8 (by kernel_rfl)
          have hb9_ := hall 9 (by kernel_rfl)
          have hb10_ := hall 10 (by kernel_rfl)
          have hb11_ := hall 11 (by kernel_rfl)
          subst ha
          simp only [putSel, hb0_, hb1_, hb2_, hb3_, hb4_, hb5_, hb6_, hb7_, hb8_, hb9_, hb10_, hb11_, if_true, Act.put, List.setIfInBounds_toArray, List.set_cons_zero, List.set_cons_succ]
          clear Q_L
          have H := Aside0.mk Q_H
          clear Q_H
          have L9 := Aside0.mk (Q_L9 hb11_)
          clear Q_L9
          clear hall hb0_ hb1_ hb2_ hb3_ hb4_ hb5_ hb6_ hb7_ hb8_ hb9_ hb10_ hb11_
          clear L3 H3
          have L3 := Aside0.mk L9.out
          have H3 := Aside0.mk H.out
          clear L9 H
          generalize w' = wr at *
          go_wp2_with fail
          refine start_ (n := 12) (S := fun w' => True) (ds := []) #[false, false, false, false, false, false, false, false, false, false, false, false] (by kernel_rfl) rfl rfl trivial (fun hHeld => ?_)
          refine with_tabW lnPlays.tab10 lnPlays.bits10 (fun HT_ HW_ => ?_)
          have L : Aside0 (PR wr.drew (fun i => i < w0.heap.size) la n (s + 1) sc (m ++ sendL n s sc (du j) (sr j) (ds j) (tx j)) lr n s sc m) := ⟨L3.out.quiet (bdrew (Below.refl _ wr))⟩
          have H : Aside0 (Below w0.heap.size w0 wr.drew) := ⟨bdrew H3.out⟩
          generalize wr.drew = w1' at *
          refine inv_at [0, 1, 2, 3, 4, 5, 6, 7, 8, 9, 10, 11] (fun a0_ b a w' => a = putSel a0_ b [(0, 52, .pointer (some ⟨lr, 0, none⟩)), (1, 53, .slice (some ad) len c), (2, 54, .int .i64 (j : Int)), (3, 55, .pointer (some (ad.add (j * 5)))), (4, 56, .pointer (some ⟨(ad.add (j * 5)).block, (ad.add (j * 5)).off + 1, none⟩)), (5, 57, .int .i64 (du j)), (6, 58, .slice (some ad) len c), (7, 59, .int .i64 (j : Int)), (8, 60, .pointer (some (ad.add (j * 5)))), (9, 61, .pointer (some ⟨(ad.add (j * 5)).block, (ad.add (j * 5)).off + 2, none⟩)), (10, 62, .agg #[.int .i64 (sr j), .int .i64 (ds j), .string (tx j)]), (11, 63, .tuple #[])] ∧ (b 11 = false → PR w' (fun i => i < w0.heap.size) la n (s + 1) sc (m ++ sendL n s sc (du j) (sr j) (ds j) (tx j)) lr n s sc m) ∧ (Below w0.heap.size w0 w') ∧ (b 11 = true → PR w' (fun i => i < w0.heap.size) la n (s + 1) sc (m ++ sendL n s sc (du j) (sr j) (ds j) (tx j)) lr n (s + 1) sc (m ++ sendL n s sc (du j) (sr j) (ds j) (tx j)))) HT_.out HW_.out (by kernel_rfl) (by kernel_rfl) ?_ ?_ ?_
          · exact ⟨by simp only [putSel, Bool.false_eq_true, if_false], fun _ => L.out, H.out, fun h_ => absurd h_ (by decide)⟩
          · skip
            clear H L
            refine steps_cons ?_ ?_
            · rintro b a w' ⟨ha, Q_L, Q_H, Q_L9⟩ hb_ hon hoff
              refine ⟨_, rfl, fun K hK => ?_⟩
              have e9 : a.tmps[9]? = some (.pointer (some ⟨lr, 0, none⟩)) := by rw [ha]; exact (putSel_off rfl).trans rfl
              replace ha := Aside0.mk ha
              have L := Aside0.mk (Q_L (hoff 11 (by kernel_rfl)))
              have H := Aside0.mk Q_H
              refine value_ (w1 := w') (v := .pointer (some ⟨lr, 0, none⟩)) (by rfl) rfl ?_ ?_
              · go_simp
                (try simp only [i64_w])
                try rfl
              refine hK.out _ _ ⟨(by rw [ha.out]; exact putSel_upk 0 hb_ rfl rfl rfl), Q_L, Q_H, fun h0_ => absurd ((hoff 11 (by kernel_rfl)).symm.trans h0_) (by decide)⟩
            refine steps_cons ?_ ?_
            · rintro b a w' ⟨ha, Q_L, Q_H, Q_L9⟩ hb_ hon hoff
              refine ⟨_, rfl, fun K hK => ?_⟩
              have e2 : a.tmps[2]? = some (.slice (some ad) len c) := by rw [ha]; exact (putSel_off rfl).trans rfl
              replace ha := Aside0.mk ha
              have L := Aside0.mk (Q_L (hoff 11 (by kernel_rfl)))
              have H := Aside0.mk Q_H
              refine value_ (w1 := w') (v := .slice (some ad) len c) (by rfl) rfl ?_ ?_
              · go_simp
                (try simp only [i64_w])
                try rfl
              refine hK.out _ _ ⟨(by rw [ha.out]; exact putSel_upk 1 hb_ rfl rfl rfl), Q_L, Q_H, fun h0_ => absurd ((hoff 11 (by kernel_rfl)).symm.trans h0_) (by decide)⟩
            refine steps_cons ?_ ?_
            · rintro b a w' ⟨ha, Q_L, Q_H, Q_L9⟩ hb_ hon hoff
              refine ⟨_, rfl, fun K hK => ?_⟩
              have e10 : a.tmps[10]? = some (.int .i64 (j : Int)) := by rw [ha]; exact (putSel_off rfl).trans rfl
              replace ha := Aside0.mk ha
              have L := Aside0.mk (Q_L (hoff 11 (by kernel_rfl)))
              have H := Aside0.mk Q_H
              refine value_ (w1 := w') (v := .int .i64 (j : Int)) (by rfl) rfl ?_ ?_
              · go_simp
                (try simp only [i64_w])
                try rfl
              refine hK.out _ _ ⟨(by rw [ha.out]; exact putSel_upk 2 hb_ rfl rfl rfl), Q_L, Q_H, fun h0_ => absurd ((hoff 11 (by kernel_rfl)).symm.trans h0_) (by decide)⟩
            refine steps_cons ?_ ?_
            · rintro b a w' ⟨ha, Q_L, Q_H, Q_L9⟩ hb_ hon hoff
              refine ⟨_, rfl, fun K hK => ?_⟩
              have e53 : a.tmps[53]? = some (.slice (some ad) len c) := by rw [ha]; exact putSel_on (e := (1, 53, .slice (some ad) len c)) 1 rfl rfl (hon 1 (by kernel_rfl)) rfl
              have e54 : a.tmps[54]? = some (.int .i64 (j : Int)) := by rw [ha]; exact putSel_on (e := (2, 54, .int .i64 (j : Int))) 2 rfl rfl (hon 2 (by kernel_rfl)) rfl
              replace ha := Aside0.mk ha
              have L := Aside0.mk (Q_L (hoff 11 (by kernel_rfl)))
              have H := Aside0.mk Q_H
              have y0 := z0.out
              have y1 := z2.out
              refine value_ (w1 := w') (v := .pointer (some (ad.add (j * 5)))) (by rfl) rfl ?_ ?_
              · go_simp
                (try simp only [i64_w])
                try rfl
              refine hK.out _ _ ⟨(by rw [ha.out]; exact putSel_upk 3 hb_ rfl rfl rfl), Q_L, Q_H, fun h0_ => absurd ((hoff 11 (by kernel_rfl)).symm.trans h0_) (by decide)⟩
            refine steps_cons ?_ ?_
            · rintro b a w' ⟨ha, Q_L, Q_H, Q_L9⟩ hb_ hon hoff
              refine ⟨_, rfl, fun K hK => ?_⟩
              have e55 : a.tmps[55]? = some (.pointer (some (ad.add (j * 5)))) := by rw [ha]; exact putSel_on (e := (3, 55, .pointer (some (ad.add (j * 5))))) 3 rfl rfl (hon 3 (by kernel_rfl)) rfl
              replace ha := Aside0.mk ha
              have L := Aside0.mk (Q_L (hoff 11 (by kernel_rfl)))
              have H := Aside0.mk Q_H
              refine value_ (w1 := w') (v := .pointer (some ⟨(ad.add (j * 5)).block, (ad.add (j * 5)).off + 1, none⟩)) (by rfl) rfl ?_ ?_
              · go_simp
                (try simp only [i64_w])
                try rfl
              refine hK.out _ _ ⟨(by rw [ha.out]; exact putSel_upk 4 hb_ rfl rfl rfl), Q_L, Q_H, fun h0_ => absurd ((hoff 11 (by kernel_rfl)).symm.trans h0_) (by decide)⟩
            refine steps_cons ?_ ?_
            · rintro b a w' ⟨ha, Q_L, Q_H, Q_L9⟩ hb_ hon hoff
              refine ⟨_, rfl, fun K hK => ?_⟩
              have e56 : a.tmps[56]? = some (.pointer (some ⟨(ad.add (j * 5)).block, (ad.add (j * 5)).off + 1, none⟩)) := by rw [ha]; exact putSel_on (e := (4, 56, .pointer (some ⟨(ad.add (j * 5)).block, (ad.add (j * 5)).off + 1, none⟩))) 4 rfl rfl (hon 4 (by kernel_rfl)) rfl
              replace ha := Aside0.mk ha
              have L := Aside0.mk (Q_L (hoff 11 (by kernel_rfl)))
              have H := Aside0.mk Q_H
              have e1 : w'.cell? ⟨(ad.add (j * 5)).block, (ad.add (j * 5)).off + 1, none⟩ = some (.int .i64 (du j)) := (H.out.cell (show (⟨(ad.add (j * 5)).block, (ad.add (j * 5)).off + 1, none⟩ : Addr).block < w0.heap.size from T0.out.1)).trans T0.out.2.2.1
              refine value_ (w1 := w') (v := .int .i64 (du j)) (by rfl) rfl ?_ ?_
              · go_simp
                (try simp only [i64_w])
                try rfl
              refine hK.out _ _ ⟨(by rw [ha.out]; exact putSel_upk 5 hb_ rfl rfl rfl), Q_L, Q_H, fun h0_ => absurd ((hoff 11 (by kernel_rfl)).symm.trans h0_) (by decide)⟩
            refine steps_cons ?_ ?_
            · rintro b a w' ⟨ha, Q_L, Q_H, Q_L9⟩ hb_ hon hoff
              refine ⟨_, rfl, fun K hK => ?_⟩
              have e2 : a.tmps[2]? = some (.slice (some ad) len c) := by rw [ha]; exact (putSel_off rfl).trans rfl
              replace ha := Aside0.mk ha
              have L := Aside0.mk (Q_L (hoff 11 (by kernel_rfl)))
              have H := Aside0.mk Q_H
              refine value_ (w1 := w') (v := .slice (some ad) len c) (by rfl) rfl ?_ ?_
              · go_simp
                (try simp only [i64_w])
                try rfl
              refine hK.out _ _ ⟨(by rw [ha.out]; exact putSel_upk 6 hb_ rfl rfl rfl), Q_L, Q_H, fun h0_ => absurd ((hoff 11 (by kernel_rfl)).symm.trans h0_) (by decide)⟩
            refine steps_cons ?_ ?_
            · rintro b a w' ⟨ha, Q_L, Q_H, Q_L9⟩ hb_ hon hoff
              refine ⟨_, rfl, fun K hK => ?_⟩
              have e10 : a.tmps[10]? = some (.int .i64 (j : Int)) := by rw [ha]; exact (putSel_off rfl).trans rfl
              replace ha := Aside0.mk ha
              have L := Aside0.mk (Q_L (hoff 11 (by kernel_rfl)))
              have H := Aside0.mk Q_H
              refine value_ (w1 := w') (v := .int .i64 (j : Int)) (by rfl) rfl ?_ ?_
              · go_simp
                (try simp only [i64_w])
                try rfl
              refine hK.out _ _ ⟨(by rw [ha.out]; exact putSel_upk 7 hb_ rfl rfl rfl), Q_L, Q_H, fun h0_ => absurd ((hoff 11 (by kernel_rfl)).symm.trans h0_) (by decide)⟩
            refine steps_cons ?_ ?_
            · rintro b a w' ⟨ha, Q_L, Q_H, Q_L9⟩ hb_ hon hoff
              refine ⟨_, rfl, fun K hK => ?_⟩
              have e58 : a.tmps[58]? = some (.slice (some ad) len c) := by rw [ha]; exact putSel_on (e := (6, 58, .slice (some ad) len c)) 6 rfl rfl (hon 6 (by kernel_rfl)) rfl
              have e59 : a.tmps[59]? = some (.int .i64 (j : Int)) := by rw [ha]; exact putSel_on (e := (7, 59, .int .i64 (j : Int))) 7 rfl rfl (hon 7 (by kernel_rfl)) rfl
              replace ha := Aside0.mk ha
              have L := Aside0.mk (Q_L (hoff 11 (by kernel_rfl)))
              have H := Aside0.mk Q_H
              have y0 := z0.out
              have y1 := z2.out
              refine value_ (w1 := w') (v := .pointer (some (ad.add (j * 5)))) (by rfl) rfl ?_ ?_
              · go_simp
                (try simp only [i64_w])
                try rfl
              refine hK.out _ _ ⟨(by rw [ha.out]; exact putSel_upk 8 hb_ rfl rfl rfl), Q_L, Q_H, fun h0_ => absurd ((hoff 11 (by kernel_rfl)).symm.trans h0_) (by decide)⟩
            refine steps_cons ?_ ?_
            · rintro b a w' ⟨ha, Q_L, Q_H, Q_L9⟩ hb_ hon hoff
              refine ⟨_, rfl, fun K hK => ?_⟩
              have e60 : a.tmps[60]? = some (.pointer (some (ad.add (j * 5)))) := by rw [ha]; exact putSel_on (e := (8, 60, .pointer (some (ad.add (j * 5))))) 8 rfl rfl (hon 8 (by kernel_rfl)) rfl
              replace ha := Aside0.mk ha
              have L := Aside0.mk (Q_L (hoff 11 (by kernel_rfl)))
              have H := Aside0.mk Q_H
              refine value_ (w1 := w') (v := .pointer (some ⟨(ad.add (j * 5)).block, (ad.add (j * 5)).off + 2, none⟩)) (by rfl) rfl ?_ ?_
              · go_simp
                (try simp only [i64_w])
                try rfl
              refine hK.out _ _ ⟨(by rw [ha.out]; exact putSel_upk 9 hb_ rfl rfl rfl), Q_L, Q_H, fun h0_ => absurd ((hoff 11 (by kernel_rfl)).symm.trans h0_) (by decide)⟩
            refine steps_cons ?_ ?_
            · rintro b a w' ⟨ha, Q_L, Q_H, Q_L9⟩ hb_ hon hoff
              refine ⟨_, rfl, fun K hK => ?_⟩
              have e61 : a.tmps[61]? = some (.pointer (some ⟨(ad.add (j * 5)).block, (ad.add (j * 5)).off + 2, none⟩)) := by rw [ha]; exact putSel_on (e := (9, 61, .pointer (some ⟨(ad.add (j * 5)).block, (ad.add (j * 5)).off + 2, none⟩))) 9 rfl rfl (hon 9 (by kernel_rfl)) rfl
              replace ha := Aside0.mk ha
              have L := Aside0.mk (Q_L (hoff 11 (by kernel_rfl)))
              have H := Aside0.mk Q_H
              have e2 : w'.cell? ⟨(ad.add (j * 5)).block, (ad.add (j * 5)).off + 2, none⟩ = some (.int .i64 (sr j)) := (H.out.cell (show (⟨(ad.add (j * 5)).block, (ad.add (j * 5)).off + 2, none⟩ : Addr).block < w0.heap.size from T0.out.1)).trans T0.out.2.2.2.1
              have e3 : w'.cell? ⟨(ad.add (j * 5)).block, (ad.add (j * 5)).off + 3, none⟩ = some (.int .i64 (ds j)) := (H.out.cell (show (⟨(ad.add (j * 5)).block, (ad.add (j * 5)).off + 3, none⟩ : Addr).block < w0.heap.size from T0.out.1)).trans T0.out.2.2.2.2.1
              have e4 : w'.cell? ⟨(ad.add (j * 5)).block, (ad.add (j * 5)).off + 4, none⟩ = some (.string (tx j)) := (H.out.cell (show (⟨(ad.add (j * 5)).block, (ad.add (j * 5)).off + 4, none⟩ : Addr).block < w0.heap.size from T0.out.1)).trans T0.out.2.2.2.2.2
              refine value_ (w1 := w') (v := .agg #[.int .i64 (sr j), .int .i64 (ds j), .string (tx j)]) (by rfl) rfl ?_ ?_
              · go_simp
                (try simp only [i64_w])
                try rfl
              refine hK.out _ _ ⟨(by rw [ha.out]; exact putSel_upk 10 hb_ rfl rfl rfl), Q_L, Q_H, fun h0_ => absurd ((hoff 11 (by kernel_rfl)).symm.trans h0_) (by decide)⟩
            refine steps_cons ?_ ?_
            · rintro b a w' ⟨ha, Q_L, Q_H, Q_L9⟩ hb_ hon hoff
              refine ⟨_, rfl, fun K hK => ?_⟩
              have e52 : a.tmps[52]? = some (.pointer (some ⟨lr, 0, none⟩)) := by rw [ha]; exact putSel_on (e := (0, 52, .pointer (some ⟨lr, 0, none⟩))) 0 rfl rfl (hon 0 (by kernel_rfl)) rfl
              have e57 : a.tmps[57]? = some (.int .i64 (du j)) := by rw [ha]; exact putSel_on (e := (5, 57, .int .i64 (du j))) 5 rfl rfl (hon 5 (by kernel_rfl)) rfl
              have e62 : a.tmps[62]? = some (.agg #[.int .i64 (sr j), .int .i64 (ds j), .string (tx j)]) := by rw [ha]; exact putSel_on (e := (10, 62, .agg #[.int .i64 (sr j), .int .i64 (ds j), .string (tx j)])) 10 rfl rfl (hon 10 (by kernel_rfl)) rfl
              replace ha := Aside0.mk ha
              have L := Aside0.mk (Q_L hb_)
              have H := Aside0.mk Q_H
              refine call_ 16 #[.pointer (some ⟨lr, 0, none⟩), .int .i64 (du j), .agg #[.int .i64 (sr j), .int .i64 (ds j), .string (tx j)]] (by rfl) rfl ?_ ?_
              · go_simp
              refine (pr_rsend (fun i => i < w0.heap.size) la n (s + 1) sc (m ++ sendL n s sc (du j) (sr j) (ds j) (tx j)) lr n s sc m (du j) (sr j) (ds j) (tx j) w' L.out (by have := z1.out; have := q0.out.1; omega) (by have := z1.out; have := q0.out.2; omega) HF.out (fun i h => Nat.lt_of_lt_of_le h H.out.size)).mono ?_
              rintro e w2 ⟨rfl, a1, a2⟩
              refine ⟨_, rfl, ?_⟩
              refine hK.out _ _ ⟨(by rw [ha.out]; exact putSel_upk 11 hb_ rfl rfl rfl), fun h0_ => absurd ((up_self b 11).symm.trans h0_) (by decide), H.out.trans (a2.below H.out.size (fun i h => Nat.le_of_not_lt h)), fun _ => a1⟩
            exact steps_nil
          · rintro b a w' hall ⟨ha, Q_L, Q_H, Q_L9⟩
            clear H L
            have hb0_ := hall 0 (by kernel_rfl)
            have hb1_ := hall 1 (by kernel_rfl)
            have hb2_ := hall 2 (by kernel_rfl)
            have hb3_ := hall 3 (by kernel_rfl)
            have hb4_ := hall 4 (by kernel_rfl)
            have hb5_ := hall 5 (by kernel_rfl)
            have hb6_ := hall 6 (by kernel_rfl)
            have hb7_ := hall 7 (by kernel_rfl)
            have hb8_ := hall 8 (by kernel_rfl)
            have hb9_ := hall 9 (by kernel_rfl)
            have hb10_ := hall 10 (by kernel_rfl)
            have hb11_ := hall 11 (by kernel_rfl)
            subst ha
            simp only [putSel, hb0_, hb1_, hb2_, hb3_, hb4_, hb5_, hb6_, hb7_, hb8_, hb9_, hb10_, hb11_, if_true, Act.put, List.setIfInBounds_toArray, List.set_cons_zero, List.set_cons_succ]
            clear Q_L
            have H := Aside0.mk Q_H
            clear Q_H
            have L9 := Aside0.mk (Q_L9 hb11_)
            clear Q_L9
            clear hall hb0_ hb1_ hb2_ hb3_ hb4_ hb5_ hb6_ hb7_ hb8_ hb9_ hb10_ hb11_
            have L4 := Lib.hid (show PL w' (fun i => i < w0.heap.size) la lr n sc (j + 1) from ⟨_, _, L9.out, by have := q0.out.1; omega, by have := q0.out.2; have := sendL_le9 n s sc (du j) (sr j) (ds j) (tx j); rw [List.length_append]; omega⟩)
            have H4 := Lib.hid H.out
            go_wp2_with fail
            go_roundw
            case rel => exact ⟨j + 1, rfl, by have := z1.out; omega, L4, H4⟩
            case measure => have := z1.out; simp [intOf]; omega
    · have hx : (¬ j < len) ∨ (j < len ∧ ¬ j < 60) := by omega
      have LX : Hid (∃ s m, PR wo (fun i => i < w0.heap.size) la n s sc m lr n s sc m ∧ m.length < 900000) := Lib.hid (by obtain ⟨s, m, h, _, h2⟩ := L.out; exact ⟨s, m, h, by omega⟩)
      clear L hc
      rcases hx with q | ⟨q, q2⟩
      all_goals
        (try have ed : decide (j < len) = false := by simpa using q)
        (try have ed : decide (j < len) = true := by simpa using q)
        (try have ed2 : decide ((j : Int) < 60) = false := by simpa using q2)
        go_wp2_with fail
        go_loopw [11] (fun i wr => ∃ k : Nat, i = .int .i64 k ∧ k ≤ 20 ∧ Hid (∃ s m, PR wr (fun i => i < w0.heap.size) la n s sc m lr n s sc m ∧ m.length < 900000) ∧ Hid (Below w0.heap.size w0 wr)) (fun i _ => 20 - (intOf i).toNat)
        case atStart => exact ⟨0, rfl, by omega, LX, H⟩
        case round =>
          clear LX H
          rename_i wq _
          obtain ⟨k, rfl, hk, L, H⟩ := hrel
          by_cases hk2 : k < 20
          · have ed3 : decide ((k : Int) < 20) = true := by simp; omega
            obtain ⟨s, m, LL, hm⟩ := L.out
            have L1 := Lib.hid LL
            clear L LL
            go_wp2_with fail
            refine (same_any (fun i => i < w0.heap.size) la lr s n sc m _ L1.out hm (fun i h => Nat.lt_of_lt_of_le h H.out.size)).mono ?_
            rintro e w5 ⟨rfl, a1, a2⟩
            have L5 : Hid (∃ s m, PR w5 (fun i => i < w0.heap.size) la n s sc m lr n s sc m ∧ m.length < 900000) := Lib.hid ⟨_, _, a1, Nat.lt_of_le_of_lt (nrest_len m) hm⟩
            have H5 := Lib.hid (H.out.trans (a2.below H.out.size (fun i h => Nat.le_of_not_lt h)))
            clear a1 a2 L1 H
            go_wp2_with fail
            go_roundw
            case rel => exact ⟨k + 1, rfl, by omega, L5, H5⟩
            case measure => simp [intOf]; omega
          · have ed3 : decide ((k : Int) < 20) = false := by simp; omega
            clear L
            go_wp2_with fail
            go_ret
            exact ⟨rfl, H.out⟩

end Go.Proofs.Ytemcbaacefjfnaa
