/- OMk, OTn, OMa, OMr, ORg, OMv: merged by wip/prune.py. -/
import Derived.Laws.Bits128
import Derived.Test.YthpccdhmppbkfaaSa5
import Derived.Test.YthpccdhmppbkfaaSa6
/- what the references make: numbers drawn, tents, coordinates. -/
set_option linter.unusedVariables false
set_option linter.unusedSimpArgs false
set_option maxRecDepth 100000
set_option maxHeartbeats 16000000
namespace Go.Proofs.Ythpccdhmppbkfaa
open Go.RowKit Go.Shelf Go.Proofs.YthpccdhmppbkfaaW.PrintWords Go.Proofs.YthpccdhmppbkfaaW.PrintLast Go.Proofs.YthpccdhmppbkfaaW.PrintMore
theorem rmod_eq {n m : Int} (h : 1 ≤ m) : -m < n.tmod m ∧ n.tmod m < m ∧ (n.tmod m + m).tmod m = n % m ∧ (n.tmod m + m) % m = n % m ∧ (n.tmod m) % m = n % m := by
 have m0 := Int.emod_nonneg n (show m ≠ 0 by omega)
 have m1 := Int.emod_lt_of_pos n (show 0 < m by omega)
 by_cases hs : 0 ≤ n ∨ n % m = 0
 ·obtain ⟨t1, -⟩ := tquo_pos h hs
  rw [t1]
  have e : (n % m + m) % m = n % m := by rw [Int.add_emod_right, Int.emod_emod]
  exact ⟨by omega, by omega, by rw [Int.tmod_eq_emod_of_nonneg (by omega)]; exact e, e, Int.emod_emod ..⟩
 ·obtain ⟨t1, -⟩ := tquo_neg h (by omega) (show n % m ≠ 0 by omega)
  rw [t1]
  have e : (n % m - m + m) % m = n % m := by rw [Int.sub_add_cancel, Int.emod_emod]
  exact ⟨by omega, by omega, by rw [Int.tmod_eq_emod_of_nonneg (by omega)]; exact e, e, by rw [Int.sub_emod_right, Int.emod_emod]⟩
theorem rmod_any (n m : Int) (w : World) (h : 1 ≤ m) (h' : m ≤ 1152921504606846976) :
  Calls Try.prog 27 #[.int .i64 n, .int .i64 m] w fun e w' => e = .returned (.int .i64 (n % m)) ∧ w = w' := by
 have b0 : (m == 0) = false := by simp; omega
 obtain ⟨t1, t2, t3, t4, t5⟩ := rmod_eq (n := n) h
 go_enter Try.func27, Try.ntmps27
 go_wp2
 go_ret
 exact ⟨rfl, rfl⟩
def oNext.T4 : Bool × List (List Nat × List Nat) := (true, [([], []), ([0], [0]), ([1], [1]), ([2], [2]), ([], []), ([4], [4]), ([5], [5]), ([6], [6]), ([7], [7]), ([3, 8], [3, 8]), ([9], [9]), ([], []), ([10, 11], [10, 11]), ([12, 12, 0, 1, 2, 3, 4, 5, 6, 7, 8, 9, 10, 11, 12], [12])])
def oNext.B4 : List Nat := [0, 1, 3, 7, 0, 16, 48, 112, 240, 511, 1023, 0, 4095, 8191]
theorem oNext.tab4 : rtab .any (opsOf Try.f64 4) = oNext.T4 := by kernel_rfl
theorem oNext.bits4 : waitsOk oNext.T4.2 oNext.B4 = true := by kernel_rfl
structure Dr (w0 : World) (gd : Nat) (A : Option Addr) (c : Nat) (ls : List Int) (p : Nat) (w : World) : Prop where
 box : Blk w gd #[.slice A ls.length c, .int .i64 (p : Int)] 129
 row : Kd.C kI w0 A ls.length ls
 at_ : p ≤ ls.length
 far : w0.heap.size ≤ gd
 below : Below w0.heap.size w0 w
theorem Dr.below_ {w0 w w1 : World} {gd : Nat} {A : Option Addr} {c p : Nat} {ls : List Int} (h : Dr w0 gd A c ls p w) (hb : Below w.heap.size w w1) : Dr w0 gd A c ls p w1 := ⟨h.box.below hb, h.row, h.at_, h.far, bthen' h.below hb⟩
theorem next_any (w0 : World) (gd : Nat) (A : Option Addr) (c : Nat) (ls : List Int) (p : Nat) (m : Int) (w : World) (h1 : 1 ≤ m) (h2 : m ≤ 1000000) (hd : Dr w0 gd A c ls p w) :
  Calls Try.prog 64 #[.pointer (some ⟨gd, 0, none⟩), .int .i64 m] w fun e w' => ∃ r p', e = .returned (.int .i64 r) ∧ (0 ≤ r ∧ r < m) ∧ Sc w.heap.size gd w w' ∧ Dr w0 gd A c ls p' w' := by
 have HD := lH_ hd
 have H1 := lH_ h1
 have H2 := lH_ h2
 have hlm : ls.length ≤ 9223372036854775807 := hd.row.2.1
 have c0 := hd.box.cell 0
 have c1 := hd.box.cell 1
 simp only [gA_, gZ_, gS_] at c0 c1
 clear hd
 go_enter Try.func64, Try.ntmps64
 go_upto_region 1 with fail
 by_cases hlt : ls.length ≤ p
 ·have d1 : decide ((ls.length : Int) ≤ (p : Int)) = true := decide_eq_true (by omega)
  have d2 : decide (ls.length ≤ p) = true := decide_eq_true hlt
  go_quiet (fail)
  have HB3 := lH_ (bdrewN (Below.refl w.heap.size w) nq)
  generalize w.drewN nq = w3 at *
  go_wp2_with fail
  go_ret
  exact ⟨0, p, rfl, by have := H1.out; omega, Sc.of HB3.out (Nat.le_refl _) (Nat.le_of_lt HD.out.box.lt), HD.out.below_ HB3.out⟩
 ·have d1 : decide ((ls.length : Int) ≤ (p : Int)) = false := decide_eq_false (by omega)
  have d2 : decide (ls.length ≤ p) = false := decide_eq_false hlt
  go_quiet (fail)
  have HB3 := lH_ (bdrewN (Below.refl w.heap.size w) nq)
  have HD3 := lH_ (HD.out.below_ HB3.out)
  generalize w.drewN nq = w3 at *
  have HP := lH_ hlt
  clear c0 c1 d1 d2
  have c1 := HD3.out.box.cell 1
  have f1 := HD3.out.box.frozen 1
  simp only [gA_, gZ_, gS_] at c1
  go_upto_region 4 with fail
  have HD4 : Hid (Dr w0 gd A c ls (p + 1) _) := lH_ ⟨HD3.out.box.put 1 (.int .i64 ((p : Int) + 1)) rfl, HD3.out.row, by have := HP.out; omega, HD3.out.far, bset HD3.out.below HD3.out.far 1 _⟩
  have HS4 := lH_ ((Sc.of HB3.out (Nat.le_refl _) (Nat.le_of_lt HD.out.box.lt)).trans (Sc.setG w.heap.size gd w3 1 (.int .i64 ((p : Int) + 1))))
  clear c1 f1
  generalize World.setCell _ _ _ = w4 at *
  obtain ⟨ad, c0_, rfl, hK, q0⟩ := el1 (d := kI) rfl (Kd.C_below HD4.out.row HD4.out.below) 0 p (by have := HP.out; omega)
  have hk2 : [c0_] = [Value.int .i64 (ls.getD p 0)] := hK
  obtain rfl : c0_ = _ := List.head_eq_of_cons_eq hk2
  generalize ls.getD p 0 = x at *
  have y0 : Hid (w4.cell? ⟨gd, 0, none⟩ = some (.slice (some ad) ls.length c)) := lH_ (HD4.out.box.cell 0)
  have y1 : Hid (w4.cell? ⟨gd, 1, none⟩ = some (.int .i64 ((p : Int) + 1))) := lH_ (HD4.out.box.cell 1)
  have y2 := lH_ q0
  have HP0 := lH_ (show (0 : Int) ≤ (p : Int) by omega)
  have HP1 := lH_ (show (p : Int) < (ls.length : Int) by have := HP.out; omega)
  have HW8 : Hid (IntKind.i64.wrap (p : Int) = (p : Int)) := lH_ (IntWalk.i64_in _ (by have := HP.out; omega))
  clear hK hk2 q0
  refine start_ (n := 14) (S := fun w' => True) (ds := []) #[false, false, false, false, false, false, false, false, false, false, false, false, false, false] (by kernel_rfl) rfl rfl trivial (fun hHeld => ?_)
  refine with_tabW oNext.tab4 oNext.bits4 (fun HT_ HW_ => ?_)
  have HB : Aside0 (Below w4.heap.size w4 w4.drew) := ⟨bdrew (Below.refl _ _)⟩
  generalize hwd : w4.drew = w1' at *
  clear hwd
  refine inv_at [0, 1, 2, 3, 4, 5, 6, 7, 8, 9, 10, 11, 12, 13] (fun a0_ b a w' => a = putSel a0_ b [(0, 22, .pointer (some ⟨gd, 0, none⟩)), (1, 23, .pointer (some ⟨gd, 0, none⟩)), (2, 24, .pointer (some ⟨gd, 0, none⟩)), (3, 25, .slice (some ad) ls.length c), (4, 26, .pointer (some ⟨gd, 0, none⟩)), (5, 27, .pointer (some ⟨gd, 0, none⟩)), (6, 28, .pointer (some ⟨gd, 1, none⟩)), (7, 29, .int .i64 ((p : Int) + 1)), (8, 30, .int .i64 (p : Int)), (9, 31, .pointer (some (ad.add p))), (10, 32, .int .i64 x), (11, 33, .int .i64 m), (12, 34, .int .i64 (x % m)), (13, 4, .int .i64 (x % m))] ∧ (Below w4.heap.size w4 w')) HT_.out HW_.out (by kernel_rfl) (by kernel_rfl) ?_ ?_ ?_
  ·exact ⟨by simp only [putSel, Bool.false_eq_true, if_false], HB.out⟩
  ·skip
   clear HB
   refine steps_cons ?_ ?_
   ·rintro b a w' ⟨ha, QHB⟩ hb_ hon hoff
    refine ⟨_, rfl, fun K hK => ?_⟩
    have e0 : a.tmps[0]? = some (.pointer (some ⟨gd, 0, none⟩)) := by rw [ha]; exact (putSel_off rfl).trans rfl
    replace ha := aM_ ha
    have HB := aM_ QHB
    refine value_ (w1 := w') (v := .pointer (some ⟨gd, 0, none⟩)) (by rfl) rfl ?_ ?_
    ·go_simp
     (try simp only [i64_w])
     try rfl
    refine hK.out _ _ ⟨(by rw [ha.out]; exact putSel_upk 0 hb_ rfl rfl rfl), QHB⟩
   refine steps_cons ?_ ?_
   ·rintro b a w' ⟨ha, QHB⟩ hb_ hon hoff
    refine ⟨_, rfl, fun K hK => ?_⟩
    have e22 : a.tmps[22]? = some (.pointer (some ⟨gd, 0, none⟩)) := by rw [ha]; exact putSel_on (e := (0, 22, .pointer (some ⟨gd, 0, none⟩))) 0 rfl rfl (hon 0 rfl) rfl
    replace ha := aM_ ha
    have HB := aM_ QHB
    refine value_ (w1 := w') (v := .pointer (some ⟨gd, 0, none⟩)) (by rfl) rfl ?_ ?_
    ·go_simp
     (try simp only [i64_w])
     try rfl
    refine hK.out _ _ ⟨(by rw [ha.out]; exact putSel_upk 1 hb_ rfl rfl rfl), QHB⟩
   refine steps_cons ?_ ?_
   ·rintro b a w' ⟨ha, QHB⟩ hb_ hon hoff
    refine ⟨_, rfl, fun K hK => ?_⟩
    have e23 : a.tmps[23]? = some (.pointer (some ⟨gd, 0, none⟩)) := by rw [ha]; exact putSel_on (e := (1, 23, .pointer (some ⟨gd, 0, none⟩))) 1 rfl rfl (hon 1 rfl) rfl
    replace ha := aM_ ha
    have HB := aM_ QHB
    refine value_ (w1 := w') (v := .pointer (some ⟨gd, 0, none⟩)) (by rfl) rfl ?_ ?_
    ·go_simp
     (try simp only [i64_w])
     try rfl
    refine hK.out _ _ ⟨(by rw [ha.out]; exact putSel_upk 2 hb_ rfl rfl rfl), QHB⟩
   refine steps_cons ?_ ?_
   ·rintro b a w' ⟨ha, QHB⟩ hb_ hon hoff
    refine ⟨_, rfl, fun K hK => ?_⟩
    have e24 : a.tmps[24]? = some (.pointer (some ⟨gd, 0, none⟩)) := by rw [ha]; exact putSel_on (e := (2, 24, .pointer (some ⟨gd, 0, none⟩))) 2 rfl rfl (hon 2 rfl) rfl
    replace ha := aM_ ha
    have HB := aM_ QHB
    have z0 := pw_cell_below HB.out y0.out
    refine value_ (w1 := w') (v := .slice (some ad) ls.length c) (by rfl) rfl ?_ ?_
    ·go_simp
     (try simp only [i64_w])
     try rfl
    refine hK.out _ _ ⟨(by rw [ha.out]; exact putSel_upk 3 hb_ rfl rfl rfl), QHB⟩
   refine steps_cons ?_ ?_
   ·rintro b a w' ⟨ha, QHB⟩ hb_ hon hoff
    refine ⟨_, rfl, fun K hK => ?_⟩
    have e0 : a.tmps[0]? = some (.pointer (some ⟨gd, 0, none⟩)) := by rw [ha]; exact (putSel_off rfl).trans rfl
    replace ha := aM_ ha
    have HB := aM_ QHB
    refine value_ (w1 := w') (v := .pointer (some ⟨gd, 0, none⟩)) (by rfl) rfl ?_ ?_
    ·go_simp
     (try simp only [i64_w])
     try rfl
    refine hK.out _ _ ⟨(by rw [ha.out]; exact putSel_upk 4 hb_ rfl rfl rfl), QHB⟩
   refine steps_cons ?_ ?_
   ·rintro b a w' ⟨ha, QHB⟩ hb_ hon hoff
    refine ⟨_, rfl, fun K hK => ?_⟩
    have e26 : a.tmps[26]? = some (.pointer (some ⟨gd, 0, none⟩)) := by rw [ha]; exact putSel_on (e := (4, 26, .pointer (some ⟨gd, 0, none⟩))) 4 rfl rfl (hon 4 rfl) rfl
    replace ha := aM_ ha
    have HB := aM_ QHB
    refine value_ (w1 := w') (v := .pointer (some ⟨gd, 0, none⟩)) (by rfl) rfl ?_ ?_
    ·go_simp
     (try simp only [i64_w])
     try rfl
    refine hK.out _ _ ⟨(by rw [ha.out]; exact putSel_upk 5 hb_ rfl rfl rfl), QHB⟩
   refine steps_cons ?_ ?_
   ·rintro b a w' ⟨ha, QHB⟩ hb_ hon hoff
    refine ⟨_, rfl, fun K hK => ?_⟩
    have e27 : a.tmps[27]? = some (.pointer (some ⟨gd, 0, none⟩)) := by rw [ha]; exact putSel_on (e := (5, 27, .pointer (some ⟨gd, 0, none⟩))) 5 rfl rfl (hon 5 rfl) rfl
    replace ha := aM_ ha
    have HB := aM_ QHB
    refine value_ (w1 := w') (v := .pointer (some ⟨gd, 1, none⟩)) (by rfl) rfl ?_ ?_
    ·go_simp
     (try simp only [i64_w])
     try rfl
    refine hK.out _ _ ⟨(by rw [ha.out]; exact putSel_upk 6 hb_ rfl rfl rfl), QHB⟩
   refine steps_cons ?_ ?_
   ·rintro b a w' ⟨ha, QHB⟩ hb_ hon hoff
    refine ⟨_, rfl, fun K hK => ?_⟩
    have e28 : a.tmps[28]? = some (.pointer (some ⟨gd, 1, none⟩)) := by rw [ha]; exact putSel_on (e := (6, 28, .pointer (some ⟨gd, 1, none⟩))) 6 rfl rfl (hon 6 rfl) rfl
    replace ha := aM_ ha
    have HB := aM_ QHB
    have z1 := pw_cell_below HB.out y1.out
    refine value_ (w1 := w') (v := .int .i64 ((p : Int) + 1)) (by rfl) rfl ?_ ?_
    ·go_simp
     (try simp only [i64_w])
     try rfl
    refine hK.out _ _ ⟨(by rw [ha.out]; exact putSel_upk 7 hb_ rfl rfl rfl), QHB⟩
   refine steps_cons ?_ ?_
   ·rintro b a w' ⟨ha, QHB⟩ hb_ hon hoff
    refine ⟨_, rfl, fun K hK => ?_⟩
    have e29 : a.tmps[29]? = some (.int .i64 ((p : Int) + 1)) := by rw [ha]; exact putSel_on (e := (7, 29, .int .i64 ((p : Int) + 1))) 7 rfl rfl (hon 7 rfl) rfl
    replace ha := aM_ ha
    have HB := aM_ QHB
    have h8 := HW8.out
    refine value_ (w1 := w') (v := .int .i64 (p : Int)) (by rfl) rfl ?_ ?_
    ·go_simp
     (try simp only [i64_w])
     try rfl
    refine hK.out _ _ ⟨(by rw [ha.out]; exact putSel_upk 8 hb_ rfl rfl rfl), QHB⟩
   refine steps_cons ?_ ?_
   ·rintro b a w' ⟨ha, QHB⟩ hb_ hon hoff
    refine ⟨_, rfl, fun K hK => ?_⟩
    have e25 : a.tmps[25]? = some (.slice (some ad) ls.length c) := by rw [ha]; exact putSel_on (e := (3, 25, .slice (some ad) ls.length c)) 3 rfl rfl (hon 3 rfl) rfl
    have e30 : a.tmps[30]? = some (.int .i64 (p : Int)) := by rw [ha]; exact putSel_on (e := (8, 30, .int .i64 (p : Int))) 8 rfl rfl (hon 8 rfl) rfl
    replace ha := aM_ ha
    have HB := aM_ QHB
    have h9 := HP0.out
    have h9b := HP1.out
    refine value_ (w1 := w') (v := .pointer (some (ad.add p))) (by rfl) rfl ?_ ?_
    ·go_simp
     (try simp only [i64_w])
     try rfl
    refine hK.out _ _ ⟨(by rw [ha.out]; exact putSel_upk 9 hb_ rfl rfl rfl), QHB⟩
   refine steps_cons ?_ ?_
   ·rintro b a w' ⟨ha, QHB⟩ hb_ hon hoff
    refine ⟨_, rfl, fun K hK => ?_⟩
    have e31 : a.tmps[31]? = some (.pointer (some (ad.add p))) := by rw [ha]; exact putSel_on (e := (9, 31, .pointer (some (ad.add p)))) 9 rfl rfl (hon 9 rfl) rfl
    replace ha := aM_ ha
    have HB := aM_ QHB
    have z2 := pw_cell_below HB.out y2.out
    refine value_ (w1 := w') (v := .int .i64 x) (by rfl) rfl ?_ ?_
    ·go_simp
     (try simp only [i64_w])
     try rfl
    refine hK.out _ _ ⟨(by rw [ha.out]; exact putSel_upk 10 hb_ rfl rfl rfl), QHB⟩
   refine steps_cons ?_ ?_
   ·rintro b a w' ⟨ha, QHB⟩ hb_ hon hoff
    refine ⟨_, rfl, fun K hK => ?_⟩
    have e1 : a.tmps[1]? = some (.int .i64 m) := by rw [ha]; exact (putSel_off rfl).trans rfl
    replace ha := aM_ ha
    have HB := aM_ QHB
    refine value_ (w1 := w') (v := .int .i64 m) (by rfl) rfl ?_ ?_
    ·go_simp
     (try simp only [i64_w])
     try rfl
    refine hK.out _ _ ⟨(by rw [ha.out]; exact putSel_upk 11 hb_ rfl rfl rfl), QHB⟩
   refine steps_cons ?_ ?_
   ·rintro b a w' ⟨ha, QHB⟩ hb_ hon hoff
    refine ⟨_, rfl, fun K hK => ?_⟩
    have e32 : a.tmps[32]? = some (.int .i64 x) := by rw [ha]; exact putSel_on (e := (10, 32, .int .i64 x)) 10 rfl rfl (hon 10 rfl) rfl
    have e33 : a.tmps[33]? = some (.int .i64 m) := by rw [ha]; exact putSel_on (e := (11, 33, .int .i64 m)) 11 rfl rfl (hon 11 rfl) rfl
    replace ha := aM_ ha
    have HB := aM_ QHB
    refine call_ 27 #[.int .i64 x, .int .i64 m] (by rfl) rfl ?_ ?_
    ·go_simp
    refine ((rmod_any x m w' H1.out (by have := H2.out; omega)).mono (fun e w2 h => (⟨h.1, h.2 ▸ Below.refl _ _⟩ : e = .returned (.int .i64 (x % m)) ∧ Below w'.heap.size w' w2))).mono ?_
    rintro e w2' ⟨rfl, hb⟩
    refine ⟨_, rfl, ?_⟩
    refine hK.out _ _ ⟨(by rw [ha.out]; exact putSel_upk 12 hb_ rfl rfl rfl), bthen' HB.out hb⟩
   refine steps_cons ?_ ?_
   ·rintro b a w' ⟨ha, QHB⟩ hb_ hon hoff
    refine ⟨_, rfl, fun K hK => ?_⟩
    have e34 : a.tmps[34]? = some (.int .i64 (x % m)) := by rw [ha]; exact putSel_on (e := (12, 34, .int .i64 (x % m))) 12 rfl rfl (hon 12 rfl) rfl
    replace ha := aM_ ha
    have HB := aM_ QHB
    refine value_ (w1 := w') (v := .int .i64 (x % m)) (by rfl) rfl ?_ ?_
    ·go_simp
     (try simp only [i64_w])
     try rfl
    refine hK.out _ _ ⟨(by rw [ha.out]; exact putSel_upk 13 hb_ rfl rfl rfl), QHB⟩
   exact steps_nil
  ·rintro b a w' hall ⟨ha, QHB⟩
   clear HB
   have hb0_ := hall 0 (by kernel_rfl)
   have hb1_ := hall 1 (by kernel_rfl)
   have hb2_ := hall 2 (by kernel_rfl)
   have hb3_ := hall 3 (by kernel_rfl)
   have hb4_ := hall 4 (by kernel_rfl)
   have hb5_ := hall 5 (by kernel_rfl)
   have hb6_ := hall 6 (by kernel_rfl)
   have hb7_ := hall 7 (by kernel_rfl)
   have hb8_ := hall 8 (by kernel_rfl)
   have hb9_ := hall 9 (by kernel_rfl)
   have hb10_ := hall 10 (by kernel_rfl)
   have hb11_ := hall 11 (by kernel_rfl)
   have hb12_ := hall 12 (by kernel_rfl)
   have hb13_ := hall 13 (by kernel_rfl)
   subst ha
   simp only [putSel, hb0_, hb1_, hb2_, hb3_, hb4_, hb5_, hb6_, hb7_, hb8_, hb9_, hb10_, hb11_, hb12_, hb13_, if_true, Act.put, List.setIfInBounds_toArray, List.set_cons_zero, List.set_cons_succ]
   have HB := aM_ QHB
   clear QHB
   clear hall hb0_ hb1_ hb2_ hb3_ hb4_ hb5_ hb6_ hb7_ hb8_ hb9_ hb10_ hb11_ hb12_ hb13_
   generalize w' = w5 at *
   have HB5 := lH_ HB.out
   clear HB
   go_wp2_with fail
   go_ret
   exact ⟨_, p + 1, rfl, ⟨Int.emod_nonneg _ (by have := H1.out; omega), Int.emod_lt_of_pos _ (by have := H1.out; omega)⟩, HS4.out.step HS4.out.size (Nat.le_trans (Nat.le_of_lt HD.out.box.lt) HS4.out.size) HB5.out, HD4.out.below_ HB5.out⟩
/- the reference's number, madeTent. -/
theorem and16 (n : Int) : bits .and .i64 n 65535 = n % 65536 := by
 have h127 : (BitVec.ofInt 64 65535).toNat = 2 ^ 16 - 1 := by decide
 have key : (BitVec.ofInt 64 n &&& BitVec.ofInt 64 65535).toNat = (n % ((2 ^ 64 : Nat) : Int)).toNat % 2 ^ 16 := by
  rw [BitVec.toNat_and, BitVec.toNat_ofInt, h127, Nat.and_two_pow_sub_one_eq_mod]
 show IntKind.i64.wrap ((BitVec.ofInt 64 n &&& BitVec.ofInt 64 65535).toNat : Nat) = n % 65536
 rw [key, IntKind.wrap_i64]
 omega
attribute [local go_sem] and16 max2_int min2_int max_two min_two
theorem numb_any (l : List Int) (A : Option Addr) (c : Nat) (k : Nat) (w : World) (hC : Kd.C kI w A l.length l) : Calls Try.prog 67 #[.slice A l.length c, .int .i64 (k : Int)] w fun e w' => ∃ r, e = .returned (.int .i64 r) ∧ (0 ≤ r ∧ r ≤ 65535) ∧ Below w.heap.size w w' := by
 have hm : l.length ≤ 9223372036854775807 := hC.2.1
 by_cases hlt : k < l.length
 ·obtain ⟨ad, c0_, rfl, hK, q0⟩ := el1 (d := kI) rfl hC 0 k hlt
  have hk2 : [c0_] = [Value.int .i64 (l.getD k 0)] := hK
  obtain rfl : c0_ = _ := List.head_eq_of_cons_eq hk2
  generalize l.getD k 0 = x at *
  have d1 : decide (k < l.length) = true := decide_eq_true hlt
  have b0 : (0 : Int) ≤ (k : Int) := by omega
  have b1 : (k : Int) < (l.length : Int) := by omega
  clear hC hK hk2
  go_enter Try.func67, Try.ntmps67
  go_wp2_with fail
  go_ret
  exact ⟨_, rfl, by constructor <;> omega, Below.refl _ _⟩
 ·have d1 : decide (k < l.length) = false := decide_eq_false hlt
  clear hC
  go_enter Try.func67, Try.ntmps67
  go_wp2_with fail
  go_ret
  exact ⟨0, rfl, by omega, Below.refl _ _⟩
theorem tent_made (a b c : Int) (w : World) (ha : 0 ≤ a ∧ a ≤ 65535) (hb : 0 ≤ b ∧ b ≤ 65535) (hc : 0 ≤ c ∧ c ≤ 65535) : Calls Try.prog 93 #[.int .i64 a, .int .i64 b, .int .i64 c] w fun e w' => ∃ t : I3, e = .returned (.agg #[.int .i64 t.a, .int .i64 t.b, .int .i64 t.c]) ∧ tentB t = true ∧ Below w.heap.size w w' := by
 have e1 : a.tmod 129 = a % 129 := Int.tmod_eq_emod_of_nonneg (by omega)
 have e2 : a.tdiv 129 = a / 129 := Int.tdiv_eq_ediv_of_nonneg (by omega)
 have e3 : (a / 129).tmod 7 = a / 129 % 7 := Int.tmod_eq_emod_of_nonneg (by omega)
 have e4 : b.tmod 65 = b % 65 := Int.tmod_eq_emod_of_nonneg (by omega)
 have e5 : c.tmod 65 = c % 65 := Int.tmod_eq_emod_of_nonneg (by omega)
 have e6 : IntKind.i64.wrap (a / 129) = a / 129 := IntWalk.i64_in _ (by omega)
 have e7 : IntKind.i64.wrap (a % 129 - 64) = a % 129 - 64 := IntWalk.i64_in _ (by omega)
 go_enter Try.func93, Try.ntmps93
 go_upto_region 1 with fail
 obtain ⟨w1, gT, hw0_, hg0_, XgT_, YgT_, _⟩ := new_box w #[.int .i64 0, .int .i64 0, .int .i64 0] 92
 rw [hw0_, hg0_]
 have EgT := lH_ (show gT = w.heap.size + 0 by omega)
 clear hw0_ hg0_
 have HXw1 := lH_ (YgT_.out)
 have BgT := lH_ (XgT_.out)
 clear XgT_ YgT_
 obtain ⟨pk, hpk, hj⟩ : ∃ pk : Int, (-64 ≤ pk ∧ pk ≤ 64) ∧ [Value.int IntKind.i64 0, Value.int IntKind.i64 0, Value.int IntKind.i64 64, Value.int IntKind.i64 (-64), Value.int IntKind.i64 32, Value.int IntKind.i64 (-16), Value.int IntKind.i64 (a % 129 - 64)][(a / 129 % 7).toNat]? = some (.int .i64 pk) := by
  have hz : (a / 129 % 7).toNat < 7 := by omega
  have hy : -64 ≤ a % 129 - 64 ∧ a % 129 - 64 ≤ 64 := by omega
  generalize (a / 129 % 7).toNat = z at *
  generalize a % 129 - 64 = y at *
  match z, hz with
  | 0, _ => exact ⟨0, by omega, rfl⟩
  | 1, _ => exact ⟨0, by omega, rfl⟩
  | 2, _ => exact ⟨64, by omega, rfl⟩
  | 3, _ => exact ⟨-64, by omega, rfl⟩
  | 4, _ => exact ⟨32, by omega, rfl⟩
  | 5, _ => exact ⟨-16, by omega, rfl⟩
  | 6, _ => exact ⟨y, hy, rfl⟩
  | n + 7, h => omega
 have hj0 : (0 : Int) ≤ a / 129 % 7 := by omega
 have hj1 : a / 129 % 7 < 7 := by omega
 have HT := lH_ (show w.heap.size ≤ gT by have := EgT.out; omega)
 obtain ⟨bb, hb1, hb2⟩ : ∃ v, b % 65 = v ∧ 0 ≤ v ∧ v ≤ 64 := ⟨_, rfl, by omega, by omega⟩
 obtain ⟨cc, hc1, hc2⟩ : ∃ v, c % 65 = v ∧ 0 ≤ v ∧ v ≤ 64 := ⟨_, rfl, by omega, by omega⟩
 rw [hb1] at e4
 rw [hc1] at e5
 go_upto_region 4 with fail
 have hv : ∀ h, [Value.int IntKind.i64 0, Value.int IntKind.i64 0, Value.int IntKind.i64 64, Value.int IntKind.i64 (-64), Value.int IntKind.i64 32, Value.int IntKind.i64 (-16), Value.int IntKind.i64 (a % 129 - 64)][(a / 129 % 7).toNat]'h = .int .i64 pk := fun h => by have h9 := hj; rw [List.getElem?_eq_getElem h] at h9; exact Option.some.inj h9
 rw [hv]
 have hb3 := HXw1.out
 have HX2 := lH_ (bthen' HXw1.out (balloc (Below.refl _ w1) (.cells #[.int .i64 0, .int .i64 0, .int .i64 64, .int .i64 (-64), .int .i64 32, .int .i64 (-16), .int .i64 (a % 129 - 64)] 3)))
 have BT2 := lH_ (BgT.out.alloc (.cells #[.int .i64 0, .int .i64 0, .int .i64 64, .int .i64 (-64), .int .i64 32, .int .i64 (-16), .int .i64 (a % 129 - 64)] 3))
 clear hv hb3 hj hj0 hj1 e1 e2 e3 e4 e5 e6 e7
 generalize World.alloc _ _ = w2 at *
 clear ha hb hc hb1 hc1
 by_cases h1 : 0 < pk
 ·have d1 : decide (0 < pk) = true := decide_eq_true h1
  obtain ⟨f, hf⟩ : ∃ f, (if pk < bb then pk else bb) = f := ⟨_, rfl⟩
  obtain ⟨t, ht⟩ : ∃ t, (if cc < pk then pk else cc) = t := ⟨_, rfl⟩
  have hf2 : 0 ≤ f ∧ f ≤ pk := by split at hf <;> omega
  have ht2 : pk ≤ t ∧ t ≤ 64 := by split at ht <;> omega
  have HTB := lH_ (show tentB ⟨f, pk, t⟩ = true by unfold tentB coordB; simp; omega)
  clear hf2 ht2
  have z0 := BT2.out.cell 0
  have z1 := BT2.out.cell 1
  have z2 := BT2.out.cell 2
  simp only [gA_, gZ_, gS_] at z0 z1 z2
  have f0 := BT2.out.frozen 0
  have f1 := BT2.out.frozen 1
  have f2 := BT2.out.frozen 2
  go_wp2_with fail
  refine bodyPost_ret (res_c (g := gT) rfl _ _ _ _ _ rfl (((BT2.out.put 0 _ rfl).put 1 _ rfl).put 2 _ rfl) rfl Try.underlying92 (by kernel_rfl)) rfl ⟨⟨f, pk, t⟩, rfl, HTB.out, bset (bset (bset HX2.out HT.out 0 _) HT.out 1 _) HT.out 2 _⟩
 ·by_cases h2 : pk < 0
  ·have d1 : decide (0 < pk) = false := decide_eq_false h1
   have d2 : decide (pk < 0) = true := decide_eq_true h2
   have wb : IntKind.i64.wrap (-bb) = -bb := IntWalk.i64_in _ (by omega)
   have wc : IntKind.i64.wrap (-cc) = -cc := IntWalk.i64_in _ (by omega)
   obtain ⟨f, hf⟩ : ∃ f, (if pk < -bb then pk else -bb) = f := ⟨_, rfl⟩
   obtain ⟨t, ht⟩ : ∃ t, (if -cc < pk then pk else -cc) = t := ⟨_, rfl⟩
   have hf2 : -64 ≤ f ∧ f ≤ pk := by split at hf <;> omega
   have ht2 : pk ≤ t ∧ t ≤ 0 := by split at ht <;> omega
   have HTB := lH_ (show tentB ⟨f, pk, t⟩ = true by unfold tentB coordB; simp; omega)
   clear hf2 ht2
   have z0 := BT2.out.cell 0
   have z1 := BT2.out.cell 1
   have z2 := BT2.out.cell 2
   simp only [gA_, gZ_, gS_] at z0 z1 z2
   have f0 := BT2.out.frozen 0
   have f1 := BT2.out.frozen 1
   have f2 := BT2.out.frozen 2
   go_wp2_with fail
   refine bodyPost_ret (res_c (g := gT) rfl _ _ _ _ _ rfl (((BT2.out.put 0 _ rfl).put 1 _ rfl).put 2 _ rfl) rfl Try.underlying92 (by kernel_rfl)) rfl ⟨⟨f, pk, t⟩, rfl, HTB.out, bset (bset (bset HX2.out HT.out 0 _) HT.out 1 _) HT.out 2 _⟩
  ·have d1 : decide (0 < pk) = false := decide_eq_false h1
   have d2 : decide (pk < 0) = false := decide_eq_false h2
   have wb : IntKind.i64.wrap (-bb) = -bb := IntWalk.i64_in _ (by omega)
   have HTB := lH_ (show tentB ⟨-bb, 0, cc⟩ = true by unfold tentB coordB; simp; omega)
   have z0 := BT2.out.cell 0
   have z1 := BT2.out.cell 1
   have z2 := BT2.out.cell 2
   simp only [gA_, gZ_, gS_] at z0 z1 z2
   have f0 := BT2.out.frozen 0
   have f1 := BT2.out.frozen 1
   have f2 := BT2.out.frozen 2
   go_wp2_with fail
   refine bodyPost_ret (res_c (g := gT) rfl _ _ _ _ _ rfl (((BT2.out.put 0 _ rfl).put 1 _ rfl).put 2 _ rfl) rfl Try.underlying92 (by kernel_rfl)) rfl ⟨⟨-bb, 0, cc⟩, rfl, HTB.out, bset (bset (bset HX2.out HT.out 0 _) HT.out 1 _) HT.out 2 _⟩
end Go.Proofs.Ythpccdhmppbkfaa
/- the reference's MadeAt. -/
namespace Go.Proofs.Ythpccdhmppbkfaa
open Go.RowKit Go.Shelf Go.Proofs.YthpccdhmppbkfaaW.PrintWords Go.Proofs.YthpccdhmppbkfaaW.PrintLast Go.Proofs.YthpccdhmppbkfaaW.PrintMore
theorem madeAt_any (l : List Int) (A : Option Addr) (c : Nat) (N : Nat) (w : World) (hN : N ≤ 1000) (hC : Kd.C kI w A l.length l) : Calls Try.prog 26 #[.slice A l.length c, .int .i64 (N : Int)] w fun e w' => ∃ (xs : List Int) (B : Option Addr) (d : Nat), xs.length = N ∧ (∀ x ∈ xs, -64 ≤ x ∧ x ≤ 64) ∧ e = .returned (.slice B xs.length d) ∧ Kd.R kI 3 w' w.heap.size (fun _ => True) (.slice B xs.length d) xs ∧ xs.length ≤ d ∧ Below w.heap.size w w' := by
 have HC := lH_ hC
 clear hC
 have mk := print_make_int (P := Try.prog) 30 3 (.int .i64 0) 8 Try.underlying30 infoInt rfl (by decide) (N : Int) (by omega) (by omega)
 have own := fun W => own_made' W W.heap.size 3 .i64 N (Nat.le_refl _) (by omega)
 rw [Int.toNat_natCast] at mk
 go_enter Try.func26, Try.ntmps26
 go_upto_region 2 with fail
 have RM0 : Kd.R (Kd.int .i64) 3 (w.alloc (.cells (madeCells #[.int .i64 0] N) 3)) w.heap.size (fun k => k = w.heap.size) (.slice (some ⟨w.heap.size, 0, none⟩) N N) (List.replicate N 0) := by
  refine Kd.R_of_own (enc := Value.int .i64) (h1 := fun _ => rfl) ?_ (fun k hk => by simpa [Value.ownBlock] using hk.symm)
  have h := own w
  exact h
 have HB0 := lH_ (balloc (Below.refl w.heap.size w) (.cells (madeCells #[.int .i64 0] N) 3))
 have RM := lH_ RM0
 clear RM0 own mk
 generalize World.alloc _ _ = w1 at *
 obtain ⟨gm, hgm⟩ : ∃ g, w.heap.size = g := ⟨_, rfl⟩
 rw [hgm] at RM ⊢
 have HGM := lH_ (show w.heap.size ≤ gm by omega)
 clear hgm
 go_wp2_with fail
 go_loopw [6] (fun i wr => ∃ (k : Nat) (xs : List Int), i = .int .i64 (k : Int) ∧ k ≤ N ∧ Hid (xs.length = N) ∧ Hid (∀ x ∈ xs, -64 ≤ x ∧ x ≤ 64) ∧ Hid (Kd.R (Kd.int .i64) 3 wr gm (fun k => k = gm) (.slice (some ⟨gm, 0, none⟩) N N) xs) ∧ Hid (Below w.heap.size w wr)) (fun i _ => N - (intOf i).toNat)
 case atStart => exact ⟨0, List.replicate N 0, rfl, Nat.zero_le _, lH_ (List.length_replicate ..), lH_ (fun x hx => by have := (List.mem_replicate.1 hx).2; omega), RM, HB0⟩
 case round =>
  obtain ⟨k, xs, rfl, hk, HL, HA, HR, HBr⟩ := hrel
  by_cases hlt : k < N
  ·have d1 : decide (k < N) = true := decide_eq_true hlt
   have d2 : decide ((k : Int) < (N : Int)) = true := decide_eq_true (by omega)
   have HKL := lH_ hlt
   go_wp2_with fail
   refine (numb_any l A c k wr (Kd.C_below HC.out HBr.out)).mono ?_
   rintro e w3 ⟨r, rfl, hr, hb⟩
   have HB3 := lH_ (bthen' HBr.out hb)
   have HR3 := lH_ (Kd.R_below HR.out hb)
   have e1 : r.tmod 129 = r % 129 := Int.tmod_eq_emod_of_nonneg (by omega)
   have e2 : IntKind.i64.wrap (r % 129 - 64) = r % 129 - 64 := IntWalk.i64_in _ (by omega)
   have HX := lH_ (show -64 ≤ r % 129 - 64 ∧ r % 129 - 64 ≤ 64 by omega)
   have hR2 : Kd.R (Kd.int .i64) 3 w3 gm (fun k => k = gm) (.slice (some ⟨gm, 0, none⟩) xs.length N) xs := by rw [HL.out]; exact HR3.out
   have hRC := Kd.R_cell (enc := Value.int .i64) (h1 := fun _ => rfl) (0 : Int) hR2 (k : Int) (by omega) (by rw [HL.out]; omega)
   have hPT := lH_ (Kd.R_put (enc := Value.int .i64) (h1 := fun _ => rfl) hR2 (k : Int) (r % 129 - 64)).1
   rw [Int.toNat_natCast] at hRC hPT
   obtain ⟨y0, yf⟩ := hRC
   have b0 : (0 : Int) ≤ (k : Int) := by omega
   have b1 : (k : Int) < (N : Int) := by omega
   clear hb hR2 hr
   generalize rdOf (0 : Int) xs (k : Int) = x at *
   go_wp2_with fail
   refine ⟨⟨k + 1, xs.set k (r % 129 - 64), by go_num, by omega, lH_ (by rw [List.length_set]; exact HL.out), lH_ (fun x hx => by rcases List.mem_or_eq_of_mem_set hx with h | h; exact HA.out x h; rw [h]; exact HX.out), lH_ (by have h := hPT.out; rw [HL.out] at h; exact h), lH_ (bset HB3.out HGM.out k _)⟩, by simp [intOf]; omega⟩
  ·have d1 : decide (k < N) = false := decide_eq_false hlt
   have d2 : decide ((k : Int) < (N : Int)) = false := decide_eq_false (by omega)
   clear hlt
   go_wp2_with fail
   go_ret
   have hR2 : Kd.R (Kd.int .i64) 3 wr gm (fun k => k = gm) (.slice (some ⟨gm, 0, none⟩) xs.length N) xs := by rw [HL.out]; exact HR.out
   refine ⟨xs, some ⟨gm, 0, none⟩, N, HL.out, HA.out, by rw [HL.out]; rfl, Kd.R_lower (Kd.R_mono hR2 (fun _ _ => trivial)) HGM.out, by rw [HL.out]; exact Nat.le_refl _, HBr.out⟩
/- the reference's MadeRegion, Regions. -/
def oMReg.T5 : Bool × List (List Nat × List Nat) := (true, [([], []), ([0], [0]), ([], []), ([], []), ([3], [3]), ([2, 4], [2, 4]), ([], []), ([], []), ([7], [7]), ([8], [8]), ([6, 9, 5], [6, 9]), ([], []), ([], []), ([12], [12]), ([13], [13]), ([11, 14, 10], [11, 14]), ([5, 10, 15, 15], [5, 10, 15]), ([16], [16]), ([1, 17, 16], [1, 17]), ([0, 1, 2, 3, 4, 5, 6, 7, 8, 9, 10, 11, 12, 13, 14, 15, 16, 17, 18], []), ([19, 18, 18, 0, 1, 2, 3, 4, 5, 6, 7, 8, 9, 10, 11, 12, 13, 14, 15, 16, 17, 18], [18, 19])])
def oMReg.B5 : List Nat := [0, 1, 0, 0, 8, 28, 0, 0, 128, 384, 1020, 0, 0, 4096, 12288, 32764, 65532, 131068, 262143, 524287, 1048575]
theorem oMReg.tab5 : rtab .any (opsOf Try.f66 5) = oMReg.T5 := by kernel_rfl
theorem oMReg.bits5 : waitsOk oMReg.T5.2 oMReg.B5 = true := by kernel_rfl
theorem w3k (k : Nat) (j : Int) (h : k ≤ 3) (hj : 0 ≤ j ∧ j ≤ 2) : wrap64 (3 * (k : Int) + j) = 3 * (k : Int) + j := by unfold wrap64; omega
theorem madeReg_any (l : List Int) (A : Option Addr) (c : Nat) (n : Nat) (w : World) (hn : n ≤ 3) (hC : Kd.C kI w A l.length l) : Calls Try.prog 66 #[.slice A l.length c, .int .i64 (n : Int)] w fun e w' => ∃ (xs : List I3) (v : Value), regB xs n = true ∧ e = .returned (.agg #[v]) ∧ Kd.R kI3 92 w' w.heap.size (fun _ => True) v xs ∧ Below w.heap.size w w' := by
 have HC := lH_ hC
 clear hC
 go_enter Try.func66, Try.ntmps66
 go_upto_region 2 with fail
 obtain ⟨w1, g4, hw0_, hg0_, Xg4_, Yg4_, _⟩ := new_box w #[.slice none 0 0] 46
 obtain ⟨w2, g5, hw1_, hg1_, Xg5_, Yg5_, _⟩ := new_box w1 #[.slice none 0 0] 46
 have s1_ : w.heap.size + 1 = g5 := by rw [← hg1_, ← hw0_]; simp
 rw [hw0_, hw1_, s1_, hg0_]
 have Eg4 := lH_ (show g4 = w.heap.size + 0 by omega)
 have Eg5 := lH_ (show g5 = w.heap.size + 1 by omega)
 clear hw0_ hg0_ hw1_ hg1_ s1_
 have HXw2 := lH_ (bthen' (Yg4_.out) Yg5_.out)
 have Bg4 := lH_ ((Xg4_.out).below Yg5_.out)
 have Bg5 := lH_ (Xg5_.out)
 clear Xg4_ Yg4_ Xg5_ Yg5_
 have HG5 := lH_ (show w.heap.size ≤ g5 by have := Eg5.out; omega)
 have HG4 := lH_ (show w.heap.size ≤ g4 by have := Eg4.out; omega)
 have N45 := lH_ (show g4 ≠ g5 by have := Eg4.out; have := Eg5.out; omega)
 go_wp2_with fail
 go_loopw [6] (fun i wr => ∃ (k : Nat) (xs : List I3) (v : Value), i = .int .i64 (k : Int) ∧ k ≤ n ∧ Hid (xs.length = k) ∧ Hid (∀ x ∈ xs, tentB x = true) ∧ Hid (Blk wr g4 #[.slice none 0 0] 46) ∧ Hid (Blk wr g5 #[v] 46) ∧ Hid (Kd.R kI3 92 wr w.heap.size (fun _ => True) v xs) ∧ Hid (Below w.heap.size w wr)) (fun i _ => n - (intOf i).toNat)
 case atStart => exact ⟨0, [], _, rfl, Nat.zero_le _, lH_ rfl, lH_ (fun x hx => by cases hx), Bg4, Bg5, lH_ (Kd.R_nil _ _ _ _ _), HXw2⟩
 case round =>
  obtain ⟨k, xs, v, rfl, hk, HL, HA, ZR, BR, RR, HBr⟩ := hrel
  by_cases hlt : k < n
  ·have d1 : decide (k < n) = true := decide_eq_true hlt
   have HKL := lH_ hlt
   have HLX := lH_ (show xs.length ≤ 3 by have := HL.out; omega)
   have HW0 : Hid (IntKind.i64.wrap (3 * (k : Int)) = ((3 * k : Nat) : Int)) := lH_ ((IntWalk.i64_in _ (by omega)).trans (by omega))
   have HW1 : Hid (wrap64 (3 * (k : Int) + 1) = 3 * (k : Int) + 1) := lH_ (w3k k 1 (by omega) (by omega))
   have HW2 : Hid (wrap64 (3 * (k : Int) + 2) = 3 * (k : Int) + 2) := lH_ (w3k k 2 (by omega) (by omega))
   go_upto_region 5 with fail
   refine start_ (n := 21) (S := fun w' => True) (ds := []) #[false, false, false, false, false, false, false, false, false, false, false, false, false, false, false, false, false, false, false, false, false] (by kernel_rfl) rfl rfl trivial (fun hHeld => ?_)
   refine with_tabW oMReg.tab5 oMReg.bits5 (fun HT_ HW_ => ?_)
   have HB : Aside0 (Below w.heap.size w wr.drew) := ⟨bdrew HBr.out⟩
   have Z4 : Aside0 (Blk wr.drew g4 #[.slice none 0 0] 46) := ⟨ZR.out.drew⟩
   have B5 : Aside0 (Blk wr.drew g5 #[v] 46) := ⟨BR.out.drew⟩
   have RV : Aside0 (Kd.R kI3 92 wr.drew w.heap.size (fun _ => True) v xs) := ⟨Kd.R_below RR.out (below_drew (Below.refl _ _))⟩
   generalize hwd : wr.drew = w1' at *
   clear hwd
   refine inv_at [0, 1, 2, 3, 4, 5, 6, 7, 8, 9, 10, 11, 12, 13, 14, 15, 16, 17, 18, 19, 20] (fun a0_ b a w' => ∃ (r0 : Int) (r1 : Int) (r2 : Int) (ta : Int) (tb : Int) (tc : Int) (ge : Nat) (v1 : Value) (m5_ : Value) (m10_ : Value) (m15_ : Value) (m16_ : Value) (m17_ : Value), a = putSel a0_ b [(0, 13, .pointer (some ⟨g5, 0, none⟩)), (1, 14, v), (2, 15, .slice A l.length c), (3, 16, .int .i64 (k : Int)), (4, 17, .int .i64 ((3 * k : Nat) : Int)), (5, 18, m5_), (6, 19, .slice A l.length c), (7, 20, .int .i64 (k : Int)), (8, 21, .int .i64 ((3 * k : Nat) : Int)), (9, 22, .int .i64 ((3 * k + 1 : Nat) : Int)), (10, 23, m10_), (11, 24, .slice A l.length c), (12, 25, .int .i64 (k : Int)), (13, 26, .int .i64 ((3 * k : Nat) : Int)), (14, 27, .int .i64 ((3 * k + 2 : Nat) : Int)), (15, 28, m15_), (16, 29, m16_), (17, 30, m17_), (18, 31, v1), (19, 32, .pointer (some ⟨g5, 0, none⟩))] ∧ (Below w.heap.size w w') ∧ (Blk w' g4 #[.slice none 0 0] 46) ∧ (b 20 = false → Blk w' g5 #[v] 46) ∧ (b 18 = false → Kd.R kI3 92 w' w.heap.size (fun _ => True) v xs) ∧ (b 5 = true → 0 ≤ r0 ∧ r0 ≤ 65535) ∧ (b 10 = true → 0 ≤ r1 ∧ r1 ≤ 65535) ∧ (b 15 = true → 0 ≤ r2 ∧ r2 ≤ 65535) ∧ (b 16 = true → tentB ⟨ta, tb, tc⟩ = true) ∧ (b 17 = true → b 18 = false → Blk w' ge #[.int .i64 ta, .int .i64 tb, .int .i64 tc] 92) ∧ (b 17 = true → w.heap.size ≤ ge) ∧ (b 18 = true → Kd.R kI3 92 w' w.heap.size (fun _ => True) v1 (xs ++ [⟨ta, tb, tc⟩])) ∧ (b 20 = true → Blk w' g5 #[v1] 46) ∧ (b 5 = true → (m5_ : Value) = .int .i64 r0) ∧ (b 10 = true → (m10_ : Value) = .int .i64 r1) ∧ (b 15 = true → (m15_ : Value) = .int .i64 r2) ∧ (b 16 = true → (m16_ : Value) = .agg #[.int .i64 ta, .int .i64 tb, .int .i64 tc]) ∧ (b 17 = true → (m17_ : Value) = .slice (some ⟨ge, 0, none⟩) 1 1)) HT_.out HW_.out (by kernel_rfl) (by kernel_rfl) ?_ ?_ ?_
   ·exact ⟨0, 0, 0, 0, 0, 0, 0, undef, .bool false, .bool false, .bool false, .bool false, .bool false, by simp only [putSel, Bool.false_eq_true, if_false], HB.out, Z4.out, fun _ => B5.out, fun _ => RV.out, fun h_ => absurd h_ (by decide), fun h_ => absurd h_ (by decide), fun h_ => absurd h_ (by decide), fun h_ => absurd h_ (by decide), fun h_ => absurd h_ (by decide), fun h_ => absurd h_ (by decide), fun h_ => absurd h_ (by decide), fun h_ => absurd h_ (by decide), fun h_ => absurd h_ (by decide), fun h_ => absurd h_ (by decide), fun h_ => absurd h_ (by decide), fun h_ => absurd h_ (by decide), fun h_ => absurd h_ (by decide)⟩
   ·skip
    clear B5 HB RV Z4
    refine steps_cons ?_ ?_
    ·rintro b a w' ⟨r0, r1, r2, ta, tb, tc, ge, v1, m5_, m10_, m15_, m16_, m17_, ha, QHB, QZ4, QB5, QRV, QNr0, QNr1, QNr2, QNT, QEB, QLge, QRA, QB6, QX5_, QX10_, QX15_, QX16_, QX17_⟩ hb_ hon hoff
     refine ⟨_, rfl, fun K hK => ?_⟩
     have e5 : a.tmps[5]? = some (.pointer (some ⟨g5, 0, none⟩)) := by rw [ha]; exact (putSel_off rfl).trans rfl
     replace ha := aM_ ha
     have HB := aM_ QHB
     have Z4 := aM_ QZ4
     have B5 := aM_ (QB5 (hoff 20 rfl))
     have RV := aM_ (QRV (hoff 18 rfl))
     refine value_ (w1 := w') (v := .pointer (some ⟨g5, 0, none⟩)) (by rfl) rfl ?_ ?_
     ·go_simp
      (try simp only [i64_w])
      try rfl
      try assumption
     refine hK.out _ _ ⟨r0, r1, r2, ta, tb, tc, ge, v1, m5_, m10_, m15_, m16_, m17_, (by rw [ha.out]; exact putSel_upk 0 hb_ rfl rfl rfl), QHB, QZ4, QB5, QRV, QNr0, QNr1, QNr2, QNT, QEB, QLge, dD_ (hoff 18 rfl), dD_ (hoff 20 rfl), QX5_, QX10_, QX15_, QX16_, QX17_⟩
    refine steps_cons ?_ ?_
    ·rintro b a w' ⟨r0, r1, r2, ta, tb, tc, ge, v1, m5_, m10_, m15_, m16_, m17_, ha, QHB, QZ4, QB5, QRV, QNr0, QNr1, QNr2, QNT, QEB, QLge, QRA, QB6, QX5_, QX10_, QX15_, QX16_, QX17_⟩ hb_ hon hoff
     refine ⟨_, rfl, fun K hK => ?_⟩
     have e13 : a.tmps[13]? = some (.pointer (some ⟨g5, 0, none⟩)) := by rw [ha]; exact putSel_on (e := (0, 13, .pointer (some ⟨g5, 0, none⟩))) 0 rfl rfl (hon 0 rfl) rfl
     replace ha := aM_ ha
     have HB := aM_ QHB
     have Z4 := aM_ QZ4
     have B5 := aM_ (QB5 (hoff 20 rfl))
     have RV := aM_ (QRV (hoff 18 rfl))
     have q4 := B5.out.cell 0
     refine value_ (w1 := w') (v := v) (by rfl) rfl ?_ ?_
     ·go_simp
      (try simp only [i64_w])
      try rfl
      try assumption
     refine hK.out _ _ ⟨r0, r1, r2, ta, tb, tc, ge, v1, m5_, m10_, m15_, m16_, m17_, (by rw [ha.out]; exact putSel_upk 1 hb_ rfl rfl rfl), QHB, QZ4, QB5, QRV, QNr0, QNr1, QNr2, QNT, QEB, QLge, dD_ (hoff 18 rfl), dD_ (hoff 20 rfl), QX5_, QX10_, QX15_, QX16_, QX17_⟩
    refine steps_cons ?_ ?_
    ·rintro b a w' ⟨r0, r1, r2, ta, tb, tc, ge, v1, m5_, m10_, m15_, m16_, m17_, ha, QHB, QZ4, QB5, QRV, QNr0, QNr1, QNr2, QNT, QEB, QLge, QRA, QB6, QX5_, QX10_, QX15_, QX16_, QX17_⟩ hb_ hon hoff
     refine ⟨_, rfl, fun K hK => ?_⟩
     have e0 : a.tmps[0]? = some (.slice A l.length c) := by rw [ha]; exact (putSel_off rfl).trans rfl
     replace ha := aM_ ha
     have HB := aM_ QHB
     have Z4 := aM_ QZ4
     have B5 := aM_ (QB5 (hoff 20 rfl))
     have RV := aM_ (QRV (hoff 18 rfl))
     refine value_ (w1 := w') (v := .slice A l.length c) (by rfl) rfl ?_ ?_
     ·go_simp
      (try simp only [i64_w])
      try rfl
      try assumption
     refine hK.out _ _ ⟨r0, r1, r2, ta, tb, tc, ge, v1, m5_, m10_, m15_, m16_, m17_, (by rw [ha.out]; exact putSel_upk 2 hb_ rfl rfl rfl), QHB, QZ4, QB5, QRV, dD_ (hoff 5 rfl), dD_ (hoff 10 rfl), dD_ (hoff 15 rfl), dD_ (hoff 16 rfl), dD_ (hoff 17 rfl), dD_ (hoff 17 rfl), dD_ (hoff 18 rfl), dD_ (hoff 20 rfl), dD_ (hoff 5 rfl), dD_ (hoff 10 rfl), dD_ (hoff 15 rfl), dD_ (hoff 16 rfl), dD_ (hoff 17 rfl)⟩
    refine steps_cons ?_ ?_
    ·rintro b a w' ⟨r0, r1, r2, ta, tb, tc, ge, v1, m5_, m10_, m15_, m16_, m17_, ha, QHB, QZ4, QB5, QRV, QNr0, QNr1, QNr2, QNT, QEB, QLge, QRA, QB6, QX5_, QX10_, QX15_, QX16_, QX17_⟩ hb_ hon hoff
     refine ⟨_, rfl, fun K hK => ?_⟩
     have e6 : a.tmps[6]? = some (.int .i64 (k : Int)) := by rw [ha]; exact (putSel_off rfl).trans rfl
     replace ha := aM_ ha
     have HB := aM_ QHB
     have Z4 := aM_ QZ4
     have B5 := aM_ (QB5 (hoff 20 rfl))
     have RV := aM_ (QRV (hoff 18 rfl))
     refine value_ (w1 := w') (v := .int .i64 (k : Int)) (by rfl) rfl ?_ ?_
     ·go_simp
      (try simp only [i64_w])
      try rfl
      try assumption
     refine hK.out _ _ ⟨r0, r1, r2, ta, tb, tc, ge, v1, m5_, m10_, m15_, m16_, m17_, (by rw [ha.out]; exact putSel_upk 3 hb_ rfl rfl rfl), QHB, QZ4, QB5, QRV, dD_ (hoff 5 rfl), dD_ (hoff 10 rfl), dD_ (hoff 15 rfl), dD_ (hoff 16 rfl), dD_ (hoff 17 rfl), dD_ (hoff 17 rfl), dD_ (hoff 18 rfl), dD_ (hoff 20 rfl), dD_ (hoff 5 rfl), dD_ (hoff 10 rfl), dD_ (hoff 15 rfl), dD_ (hoff 16 rfl), dD_ (hoff 17 rfl)⟩
    refine steps_cons ?_ ?_
    ·rintro b a w' ⟨r0, r1, r2, ta, tb, tc, ge, v1, m5_, m10_, m15_, m16_, m17_, ha, QHB, QZ4, QB5, QRV, QNr0, QNr1, QNr2, QNT, QEB, QLge, QRA, QB6, QX5_, QX10_, QX15_, QX16_, QX17_⟩ hb_ hon hoff
     refine ⟨_, rfl, fun K hK => ?_⟩
     have e16 : a.tmps[16]? = some (.int .i64 (k : Int)) := by rw [ha]; exact putSel_on (e := (3, 16, .int .i64 (k : Int))) 3 rfl rfl (hon 3 rfl) rfl
     replace ha := aM_ ha
     have HB := aM_ QHB
     have Z4 := aM_ QZ4
     have B5 := aM_ (QB5 (hoff 20 rfl))
     have RV := aM_ (QRV (hoff 18 rfl))
     have hw := HW0.out
     refine value_ (w1 := w') (v := .int .i64 ((3 * k : Nat) : Int)) (by rfl) rfl ?_ ?_
     ·go_simp
      (try simp only [i64_w])
      try rfl
      try assumption
     refine hK.out _ _ ⟨r0, r1, r2, ta, tb, tc, ge, v1, m5_, m10_, m15_, m16_, m17_, (by rw [ha.out]; exact putSel_upk 4 hb_ rfl rfl rfl), QHB, QZ4, QB5, QRV, dD_ (hoff 5 rfl), dD_ (hoff 10 rfl), dD_ (hoff 15 rfl), dD_ (hoff 16 rfl), dD_ (hoff 17 rfl), dD_ (hoff 17 rfl), dD_ (hoff 18 rfl), dD_ (hoff 20 rfl), dD_ (hoff 5 rfl), dD_ (hoff 10 rfl), dD_ (hoff 15 rfl), dD_ (hoff 16 rfl), dD_ (hoff 17 rfl)⟩
    refine steps_cons ?_ ?_
    ·rintro b a w' ⟨r0, r1, r2, ta, tb, tc, ge, v1, m5_, m10_, m15_, m16_, m17_, ha, QHB, QZ4, QB5, QRV, QNr0, QNr1, QNr2, QNT, QEB, QLge, QRA, QB6, QX5_, QX10_, QX15_, QX16_, QX17_⟩ hb_ hon hoff
     refine ⟨_, rfl, fun K hK => ?_⟩
     have e15 : a.tmps[15]? = some (.slice A l.length c) := by rw [ha]; exact putSel_on (e := (2, 15, .slice A l.length c)) 2 rfl rfl (hon 2 rfl) rfl
     have e17 : a.tmps[17]? = some (.int .i64 ((3 * k : Nat) : Int)) := by rw [ha]; exact putSel_on (e := (4, 17, .int .i64 ((3 * k : Nat) : Int))) 4 rfl rfl (hon 4 rfl) rfl
     replace ha := aM_ ha
     have HB := aM_ QHB
     have Z4 := aM_ QZ4
     have B5 := aM_ (QB5 (hoff 20 rfl))
     have RV := aM_ (QRV (hoff 18 rfl))
     refine call_ 67 #[.slice A l.length c, .int .i64 ((3 * k : Nat) : Int)] (by rfl) rfl ?_ ?_
     ·go_simp
     refine (numb_any l A c (3 * k) w' (Kd.C_below HC.out HB.out)).mono ?_
     rintro e w2' ⟨r', rfl, hr, hb⟩
     refine ⟨_, rfl, ?_⟩
     refine hK.out _ _ ⟨r', r1, r2, ta, tb, tc, ge, v1, (.int .i64 r'), m10_, m15_, m16_, m17_, (by rw [ha.out]; exact putSel_upk 5 hb_ rfl rfl rfl), bthen' HB.out hb, Z4.out.below hb, fun _ => B5.out.below hb, fun _ => Kd.R_below RV.out hb, fun _ => hr, dD_ (hoff 10 rfl), dD_ (hoff 15 rfl), dD_ (hoff 16 rfl), dD_ (hoff 17 rfl), dD_ (hoff 17 rfl), dD_ (hoff 18 rfl), dD_ (hoff 20 rfl), fun _ => rfl, dD_ (hoff 10 rfl), dD_ (hoff 15 rfl), dD_ (hoff 16 rfl), dD_ (hoff 17 rfl)⟩
    refine steps_cons ?_ ?_
    ·rintro b a w' ⟨r0, r1, r2, ta, tb, tc, ge, v1, m5_, m10_, m15_, m16_, m17_, ha, QHB, QZ4, QB5, QRV, QNr0, QNr1, QNr2, QNT, QEB, QLge, QRA, QB6, QX5_, QX10_, QX15_, QX16_, QX17_⟩ hb_ hon hoff
     refine ⟨_, rfl, fun K hK => ?_⟩
     have e0 : a.tmps[0]? = some (.slice A l.length c) := by rw [ha]; exact (putSel_off rfl).trans rfl
     replace ha := aM_ ha
     have HB := aM_ QHB
     have Z4 := aM_ QZ4
     have B5 := aM_ (QB5 (hoff 20 rfl))
     have RV := aM_ (QRV (hoff 18 rfl))
     refine value_ (w1 := w') (v := .slice A l.length c) (by rfl) rfl ?_ ?_
     ·go_simp
      (try simp only [i64_w])
      try rfl
      try assumption
     refine hK.out _ _ ⟨r0, r1, r2, ta, tb, tc, ge, v1, m5_, m10_, m15_, m16_, m17_, (by rw [ha.out]; exact putSel_upk 6 hb_ rfl rfl rfl), QHB, QZ4, QB5, QRV, QNr0, dD_ (hoff 10 rfl), dD_ (hoff 15 rfl), dD_ (hoff 16 rfl), dD_ (hoff 17 rfl), dD_ (hoff 17 rfl), dD_ (hoff 18 rfl), dD_ (hoff 20 rfl), QX5_, dD_ (hoff 10 rfl), dD_ (hoff 15 rfl), dD_ (hoff 16 rfl), dD_ (hoff 17 rfl)⟩
    refine steps_cons ?_ ?_
    ·rintro b a w' ⟨r0, r1, r2, ta, tb, tc, ge, v1, m5_, m10_, m15_, m16_, m17_, ha, QHB, QZ4, QB5, QRV, QNr0, QNr1, QNr2, QNT, QEB, QLge, QRA, QB6, QX5_, QX10_, QX15_, QX16_, QX17_⟩ hb_ hon hoff
     refine ⟨_, rfl, fun K hK => ?_⟩
     have e6 : a.tmps[6]? = some (.int .i64 (k : Int)) := by rw [ha]; exact (putSel_off rfl).trans rfl
     replace ha := aM_ ha
     have HB := aM_ QHB
     have Z4 := aM_ QZ4
     have B5 := aM_ (QB5 (hoff 20 rfl))
     have RV := aM_ (QRV (hoff 18 rfl))
     refine value_ (w1 := w') (v := .int .i64 (k : Int)) (by rfl) rfl ?_ ?_
     ·go_simp
      (try simp only [i64_w])
      try rfl
      try assumption
     refine hK.out _ _ ⟨r0, r1, r2, ta, tb, tc, ge, v1, m5_, m10_, m15_, m16_, m17_, (by rw [ha.out]; exact putSel_upk 7 hb_ rfl rfl rfl), QHB, QZ4, QB5, QRV, QNr0, dD_ (hoff 10 rfl), dD_ (hoff 15 rfl), dD_ (hoff 16 rfl), dD_ (hoff 17 rfl), dD_ (hoff 17 rfl), dD_ (hoff 18 rfl), dD_ (hoff 20 rfl), QX5_, dD_ (hoff 10 rfl), dD_ (hoff 15 rfl), dD_ (hoff 16 rfl), dD_ (hoff 17 rfl)⟩
    refine steps_cons ?_ ?_
    ·rintro b a w' ⟨r0, r1, r2, ta, tb, tc, ge, v1, m5_, m10_, m15_, m16_, m17_, ha, QHB, QZ4, QB5, QRV, QNr0, QNr1, QNr2, QNT, QEB, QLge, QRA, QB6, QX5_, QX10_, QX15_, QX16_, QX17_⟩ hb_ hon hoff
     refine ⟨_, rfl, fun K hK => ?_⟩
     have e20 : a.tmps[20]? = some (.int .i64 (k : Int)) := by rw [ha]; exact putSel_on (e := (7, 20, .int .i64 (k : Int))) 7 rfl rfl (hon 7 rfl) rfl
     replace ha := aM_ ha
     have HB := aM_ QHB
     have Z4 := aM_ QZ4
     have B5 := aM_ (QB5 (hoff 20 rfl))
     have RV := aM_ (QRV (hoff 18 rfl))
     have hw := HW0.out
     refine value_ (w1 := w') (v := .int .i64 ((3 * k : Nat) : Int)) (by rfl) rfl ?_ ?_
     ·go_simp
      (try simp only [i64_w])
      try rfl
      try assumption
     refine hK.out _ _ ⟨r0, r1, r2, ta, tb, tc, ge, v1, m5_, m10_, m15_, m16_, m17_, (by rw [ha.out]; exact putSel_upk 8 hb_ rfl rfl rfl), QHB, QZ4, QB5, QRV, QNr0, dD_ (hoff 10 rfl), dD_ (hoff 15 rfl), dD_ (hoff 16 rfl), dD_ (hoff 17 rfl), dD_ (hoff 17 rfl), dD_ (hoff 18 rfl), dD_ (hoff 20 rfl), QX5_, dD_ (hoff 10 rfl), dD_ (hoff 15 rfl), dD_ (hoff 16 rfl), dD_ (hoff 17 rfl)⟩
    refine steps_cons ?_ ?_
    ·rintro b a w' ⟨r0, r1, r2, ta, tb, tc, ge, v1, m5_, m10_, m15_, m16_, m17_, ha, QHB, QZ4, QB5, QRV, QNr0, QNr1, QNr2, QNT, QEB, QLge, QRA, QB6, QX5_, QX10_, QX15_, QX16_, QX17_⟩ hb_ hon hoff
     refine ⟨_, rfl, fun K hK => ?_⟩
     have e21 : a.tmps[21]? = some (.int .i64 ((3 * k : Nat) : Int)) := by rw [ha]; exact putSel_on (e := (8, 21, .int .i64 ((3 * k : Nat) : Int))) 8 rfl rfl (hon 8 rfl) rfl
     replace ha := aM_ ha
     have HB := aM_ QHB
     have Z4 := aM_ QZ4
     have B5 := aM_ (QB5 (hoff 20 rfl))
     have RV := aM_ (QRV (hoff 18 rfl))
     have hw := HW1.out
     refine value_ (w1 := w') (v := .int .i64 ((3 * k + 1 : Nat) : Int)) (by rfl) rfl ?_ ?_
     ·go_simp
      (try simp only [i64_w])
      try rfl
      try assumption
     refine hK.out _ _ ⟨r0, r1, r2, ta, tb, tc, ge, v1, m5_, m10_, m15_, m16_, m17_, (by rw [ha.out]; exact putSel_upk 9 hb_ rfl rfl rfl), QHB, QZ4, QB5, QRV, QNr0, dD_ (hoff 10 rfl), dD_ (hoff 15 rfl), dD_ (hoff 16 rfl), dD_ (hoff 17 rfl), dD_ (hoff 17 rfl), dD_ (hoff 18 rfl), dD_ (hoff 20 rfl), QX5_, dD_ (hoff 10 rfl), dD_ (hoff 15 rfl), dD_ (hoff 16 rfl), dD_ (hoff 17 rfl)⟩
    refine steps_cons ?_ ?_
    ·rintro b a w' ⟨r0, r1, r2, ta, tb, tc, ge, v1, m5_, m10_, m15_, m16_, m17_, ha, QHB, QZ4, QB5, QRV, QNr0, QNr1, QNr2, QNT, QEB, QLge, QRA, QB6, QX5_, QX10_, QX15_, QX16_, QX17_⟩ hb_ hon hoff
     refine ⟨_, rfl, fun K hK => ?_⟩
     have e19 : a.tmps[19]? = some (.slice A l.length c) := by rw [ha]; exact putSel_on (e := (6, 19, .slice A l.length c)) 6 rfl rfl (hon 6 rfl) rfl
     have e22 : a.tmps[22]? = some (.int .i64 ((3 * k + 1 : Nat) : Int)) := by rw [ha]; exact putSel_on (e := (9, 22, .int .i64 ((3 * k + 1 : Nat) : Int))) 9 rfl rfl (hon 9 rfl) rfl
     replace ha := aM_ ha
     have HB := aM_ QHB
     have Z4 := aM_ QZ4
     have B5 := aM_ (QB5 (hoff 20 rfl))
     have RV := aM_ (QRV (hoff 18 rfl))
     have Nr0 := aM_ (QNr0 (hon 5 rfl))
     refine call_ 67 #[.slice A l.length c, .int .i64 ((3 * k + 1 : Nat) : Int)] (by rfl) rfl ?_ ?_
     ·go_simp
     refine (numb_any l A c (3 * k + 1) w' (Kd.C_below HC.out HB.out)).mono ?_
     rintro e w2' ⟨r', rfl, hr, hb⟩
     refine ⟨_, rfl, ?_⟩
     refine hK.out _ _ ⟨r0, r', r2, ta, tb, tc, ge, v1, m5_, (.int .i64 r'), m15_, m16_, m17_, (by rw [ha.out]; exact putSel_upk 10 hb_ rfl rfl rfl), bthen' HB.out hb, Z4.out.below hb, fun _ => B5.out.below hb, fun _ => Kd.R_below RV.out hb, QNr0, fun _ => hr, dD_ (hoff 15 rfl), dD_ (hoff 16 rfl), dD_ (hoff 17 rfl), dD_ (hoff 17 rfl), dD_ (hoff 18 rfl), dD_ (hoff 20 rfl), QX5_, fun _ => rfl, dD_ (hoff 15 rfl), dD_ (hoff 16 rfl), dD_ (hoff 17 rfl)⟩
    refine steps_cons ?_ ?_
    ·rintro b a w' ⟨r0, r1, r2, ta, tb, tc, ge, v1, m5_, m10_, m15_, m16_, m17_, ha, QHB, QZ4, QB5, QRV, QNr0, QNr1, QNr2, QNT, QEB, QLge, QRA, QB6, QX5_, QX10_, QX15_, QX16_, QX17_⟩ hb_ hon hoff
     refine ⟨_, rfl, fun K hK => ?_⟩
     have e0 : a.tmps[0]? = some (.slice A l.length c) := by rw [ha]; exact (putSel_off rfl).trans rfl
     replace ha := aM_ ha
     have HB := aM_ QHB
     have Z4 := aM_ QZ4
     have B5 := aM_ (QB5 (hoff 20 rfl))
     have RV := aM_ (QRV (hoff 18 rfl))
     refine value_ (w1 := w') (v := .slice A l.length c) (by rfl) rfl ?_ ?_
     ·go_simp
      (try simp only [i64_w])
      try rfl
      try assumption
     refine hK.out _ _ ⟨r0, r1, r2, ta, tb, tc, ge, v1, m5_, m10_, m15_, m16_, m17_, (by rw [ha.out]; exact putSel_upk 11 hb_ rfl rfl rfl), QHB, QZ4, QB5, QRV, QNr0, QNr1, dD_ (hoff 15 rfl), dD_ (hoff 16 rfl), dD_ (hoff 17 rfl), dD_ (hoff 17 rfl), dD_ (hoff 18 rfl), dD_ (hoff 20 rfl), QX5_, QX10_, dD_ (hoff 15 rfl), dD_ (hoff 16 rfl), dD_ (hoff 17 rfl)⟩
    refine steps_cons ?_ ?_
    ·rintro b a w' ⟨r0, r1, r2, ta, tb, tc, ge, v1, m5_, m10_, m15_, m16_, m17_, ha, QHB, QZ4, QB5, QRV, QNr0, QNr1, QNr2, QNT, QEB, QLge, QRA, QB6, QX5_, QX10_, QX15_, QX16_, QX17_⟩ hb_ hon hoff
     refine ⟨_, rfl, fun K hK => ?_⟩
     have e6 : a.tmps[6]? = some (.int .i64 (k : Int)) := by rw [ha]; exact (putSel_off rfl).trans rfl
     replace ha := aM_ ha
     have HB := aM_ QHB
     have Z4 := aM_ QZ4
     have B5 := aM_ (QB5 (hoff 20 rfl))
     have RV := aM_ (QRV (hoff 18 rfl))
     refine value_ (w1 := w') (v := .int .i64 (k : Int)) (by rfl) rfl ?_ ?_
     ·go_simp
      (try simp only [i64_w])
      try rfl
      try assumption
     refine hK.out _ _ ⟨r0, r1, r2, ta, tb, tc, ge, v1, m5_, m10_, m15_, m16_, m17_, (by rw [ha.out]; exact putSel_upk 12 hb_ rfl rfl rfl), QHB, QZ4, QB5, QRV, QNr0, QNr1, dD_ (hoff 15 rfl), dD_ (hoff 16 rfl), dD_ (hoff 17 rfl), dD_ (hoff 17 rfl), dD_ (hoff 18 rfl), dD_ (hoff 20 rfl), QX5_, QX10_, dD_ (hoff 15 rfl), dD_ (hoff 16 rfl), dD_ (hoff 17 rfl)⟩
    refine steps_cons ?_ ?_
    ·rintro b a w' ⟨r0, r1, r2, ta, tb, tc, ge, v1, m5_, m10_, m15_, m16_, m17_, ha, QHB, QZ4, QB5, QRV, QNr0, QNr1, QNr2, QNT, QEB, QLge, QRA, QB6, QX5_, QX10_, QX15_, QX16_, QX17_⟩ hb_ hon hoff
     refine ⟨_, rfl, fun K hK => ?_⟩
     have e25 : a.tmps[25]? = some (.int .i64 (k : Int)) := by rw [ha]; exact putSel_on (e := (12, 25, .int .i64 (k : Int))) 12 rfl rfl (hon 12 rfl) rfl
     replace ha := aM_ ha
     have HB := aM_ QHB
     have Z4 := aM_ QZ4
     have B5 := aM_ (QB5 (hoff 20 rfl))
     have RV := aM_ (QRV (hoff 18 rfl))
     have hw := HW0.out
     refine value_ (w1 := w') (v := .int .i64 ((3 * k : Nat) : Int)) (by rfl) rfl ?_ ?_
     ·go_simp
      (try simp only [i64_w])
      try rfl
      try assumption
     refine hK.out _ _ ⟨r0, r1, r2, ta, tb, tc, ge, v1, m5_, m10_, m15_, m16_, m17_, (by rw [ha.out]; exact putSel_upk 13 hb_ rfl rfl rfl), QHB, QZ4, QB5, QRV, QNr0, QNr1, dD_ (hoff 15 rfl), dD_ (hoff 16 rfl), dD_ (hoff 17 rfl), dD_ (hoff 17 rfl), dD_ (hoff 18 rfl), dD_ (hoff 20 rfl), QX5_, QX10_, dD_ (hoff 15 rfl), dD_ (hoff 16 rfl), dD_ (hoff 17 rfl)⟩
    refine steps_cons ?_ ?_
    ·rintro b a w' ⟨r0, r1, r2, ta, tb, tc, ge, v1, m5_, m10_, m15_, m16_, m17_, ha, QHB, QZ4, QB5, QRV, QNr0, QNr1, QNr2, QNT, QEB, QLge, QRA, QB6, QX5_, QX10_, QX15_, QX16_, QX17_⟩ hb_ hon hoff
     refine ⟨_, rfl, fun K hK => ?_⟩
     have e26 : a.tmps[26]? = some (.int .i64 ((3 * k : Nat) : Int)) := by rw [ha]; exact putSel_on (e := (13, 26, .int .i64 ((3 * k : Nat) : Int))) 13 rfl rfl (hon 13 rfl) rfl
     replace ha := aM_ ha
     have HB := aM_ QHB
     have Z4 := aM_ QZ4
     have B5 := aM_ (QB5 (hoff 20 rfl))
     have RV := aM_ (QRV (hoff 18 rfl))
     have hw := HW2.out
     refine value_ (w1 := w') (v := .int .i64 ((3 * k + 2 : Nat) : Int)) (by rfl) rfl ?_ ?_
     ·go_simp
      (try simp only [i64_w])
      try rfl
      try assumption
     refine hK.out _ _ ⟨r0, r1, r2, ta, tb, tc, ge, v1, m5_, m10_, m15_, m16_, m17_, (by rw [ha.out]; exact putSel_upk 14 hb_ rfl rfl rfl), QHB, QZ4, QB5, QRV, QNr0, QNr1, dD_ (hoff 15 rfl), dD_ (hoff 16 rfl), dD_ (hoff 17 rfl), dD_ (hoff 17 rfl), dD_ (hoff 18 rfl), dD_ (hoff 20 rfl), QX5_, QX10_, dD_ (hoff 15 rfl), dD_ (hoff 16 rfl), dD_ (hoff 17 rfl)⟩
    refine steps_cons ?_ ?_
    ·rintro b a w' ⟨r0, r1, r2, ta, tb, tc, ge, v1, m5_, m10_, m15_, m16_, m17_, ha, QHB, QZ4, QB5, QRV, QNr0, QNr1, QNr2, QNT, QEB, QLge, QRA, QB6, QX5_, QX10_, QX15_, QX16_, QX17_⟩ hb_ hon hoff
     refine ⟨_, rfl, fun K hK => ?_⟩
     have e24 : a.tmps[24]? = some (.slice A l.length c) := by rw [ha]; exact putSel_on (e := (11, 24, .slice A l.length c)) 11 rfl rfl (hon 11 rfl) rfl
     have e27 : a.tmps[27]? = some (.int .i64 ((3 * k + 2 : Nat) : Int)) := by rw [ha]; exact putSel_on (e := (14, 27, .int .i64 ((3 * k + 2 : Nat) : Int))) 14 rfl rfl (hon 14 rfl) rfl
     replace ha := aM_ ha
     have HB := aM_ QHB
     have Z4 := aM_ QZ4
     have B5 := aM_ (QB5 (hoff 20 rfl))
     have RV := aM_ (QRV (hoff 18 rfl))
     have Nr0 := aM_ (QNr0 (hon 5 rfl))
     have Nr1 := aM_ (QNr1 (hon 10 rfl))
     refine call_ 67 #[.slice A l.length c, .int .i64 ((3 * k + 2 : Nat) : Int)] (by rfl) rfl ?_ ?_
     ·go_simp
     refine (numb_any l A c (3 * k + 2) w' (Kd.C_below HC.out HB.out)).mono ?_
     rintro e w2' ⟨r', rfl, hr, hb⟩
     refine ⟨_, rfl, ?_⟩
     refine hK.out _ _ ⟨r0, r1, r', ta, tb, tc, ge, v1, m5_, m10_, (.int .i64 r'), m16_, m17_, (by rw [ha.out]; exact putSel_upk 15 hb_ rfl rfl rfl), bthen' HB.out hb, Z4.out.below hb, fun _ => B5.out.below hb, fun _ => Kd.R_below RV.out hb, QNr0, QNr1, fun _ => hr, dD_ (hoff 16 rfl), dD_ (hoff 17 rfl), dD_ (hoff 17 rfl), dD_ (hoff 18 rfl), dD_ (hoff 20 rfl), QX5_, QX10_, fun _ => rfl, dD_ (hoff 16 rfl), dD_ (hoff 17 rfl)⟩
    refine steps_cons ?_ ?_
    ·rintro b a w' ⟨r0, r1, r2, ta, tb, tc, ge, v1, m5_, m10_, m15_, m16_, m17_, ha, QHB, QZ4, QB5, QRV, QNr0, QNr1, QNr2, QNT, QEB, QLge, QRA, QB6, QX5_, QX10_, QX15_, QX16_, QX17_⟩ hb_ hon hoff
     refine ⟨_, rfl, fun K hK => ?_⟩
     have e18 : a.tmps[18]? = some (m5_) := by rw [ha]; exact putSel_on (e := (5, 18, m5_)) 5 rfl rfl (hon 5 rfl) rfl
     rw [QX5_ (hon 5 rfl)] at e18
     have e23 : a.tmps[23]? = some (m10_) := by rw [ha]; exact putSel_on (e := (10, 23, m10_)) 10 rfl rfl (hon 10 rfl) rfl
     rw [QX10_ (hon 10 rfl)] at e23
     have e28 : a.tmps[28]? = some (m15_) := by rw [ha]; exact putSel_on (e := (15, 28, m15_)) 15 rfl rfl (hon 15 rfl) rfl
     rw [QX15_ (hon 15 rfl)] at e28
     replace ha := aM_ ha
     have HB := aM_ QHB
     have Z4 := aM_ QZ4
     have B5 := aM_ (QB5 (hoff 20 rfl))
     have RV := aM_ (QRV (hoff 18 rfl))
     have Nr0 := aM_ (QNr0 (hon 5 rfl))
     have Nr1 := aM_ (QNr1 (hon 10 rfl))
     have Nr2 := aM_ (QNr2 (hon 15 rfl))
     refine call_ 93 #[.int .i64 r0, .int .i64 r1, .int .i64 r2] (by rfl) rfl ?_ ?_
     ·go_simp
     refine (tent_made r0 r1 r2 w' Nr0.out Nr1.out Nr2.out).mono ?_
     rintro e w2' ⟨⟨xa, xb, xc⟩, rfl, ht, hb⟩
     refine ⟨_, rfl, ?_⟩
     refine hK.out _ _ ⟨r0, r1, r2, xa, xb, xc, ge, v1, m5_, m10_, m15_, (.agg #[.int .i64 xa, .int .i64 xb, .int .i64 xc]), m17_, (by rw [ha.out]; exact putSel_upk 16 hb_ rfl rfl rfl), bthen' HB.out hb, Z4.out.below hb, fun _ => B5.out.below hb, fun _ => Kd.R_below RV.out hb, QNr0, QNr1, QNr2, fun _ => ht, dD_ (hoff 17 rfl), dD_ (hoff 17 rfl), dD_ (hoff 18 rfl), dD_ (hoff 20 rfl), QX5_, QX10_, QX15_, fun _ => rfl, dD_ (hoff 17 rfl)⟩
    refine steps_cons ?_ ?_
    ·rintro b a w' ⟨r0, r1, r2, ta, tb, tc, ge, v1, m5_, m10_, m15_, m16_, m17_, ha, QHB, QZ4, QB5, QRV, QNr0, QNr1, QNr2, QNT, QEB, QLge, QRA, QB6, QX5_, QX10_, QX15_, QX16_, QX17_⟩ hb_ hon hoff
     refine ⟨_, rfl, fun K hK => ?_⟩
     have e29 : a.tmps[29]? = some (m16_) := by rw [ha]; exact putSel_on (e := (16, 29, m16_)) 16 rfl rfl (hon 16 rfl) rfl
     rw [QX16_ (hon 16 rfl)] at e29
     replace ha := aM_ ha
     have HB := aM_ QHB
     have Z4 := aM_ QZ4
     have B5 := aM_ (QB5 (hoff 20 rfl))
     have RV := aM_ (QRV (hoff 18 rfl))
     have Nr0 := aM_ (QNr0 (hon 5 rfl))
     have Nr1 := aM_ (QNr1 (hon 10 rfl))
     have Nr2 := aM_ (QNr2 (hon 15 rfl))
     have NT := aM_ (QNT (hon 16 rfl))
     refine value_ (w1 := w'.alloc (.cells #[.int .i64 ta, .int .i64 tb, .int .i64 tc] 92)) (v := .slice (some ⟨w'.heap.size, 0, none⟩) 1 1) (by rfl) rfl ?_ ?_
     ·go_simp
     refine hK.out _ _ ⟨r0, r1, r2, ta, tb, tc, w'.heap.size, v1, m5_, m10_, m15_, m16_, (.slice (some ⟨w'.heap.size, 0, none⟩) 1 1), (by rw [ha.out]; exact putSel_upk 17 hb_ rfl rfl rfl), bthen' HB.out (below_alloc (Below.refl _ w') _), Z4.out.alloc _, fun _ => B5.out.alloc _, fun _ => Kd.R_below RV.out (below_alloc (Below.refl _ w') _), QNr0, QNr1, QNr2, QNT, fun _ _ => Blk.new w' _ _ rfl, fun _ => HB.out.size, dD_ (hoff 18 rfl), dD_ (hoff 20 rfl), QX5_, QX10_, QX15_, QX16_, fun _ => rfl⟩
    refine steps_cons ?_ ?_
    ·rintro b a w' ⟨r0, r1, r2, ta, tb, tc, ge, v1, m5_, m10_, m15_, m16_, m17_, ha, QHB, QZ4, QB5, QRV, QNr0, QNr1, QNr2, QNT, QEB, QLge, QRA, QB6, QX5_, QX10_, QX15_, QX16_, QX17_⟩ hb_ hon hoff
     refine ⟨_, rfl, fun K hK => ?_⟩
     have e14 : a.tmps[14]? = some (v) := by rw [ha]; exact putSel_on (e := (1, 14, v)) 1 rfl rfl (hon 1 rfl) rfl
     have e30 : a.tmps[30]? = some (m17_) := by rw [ha]; exact putSel_on (e := (17, 30, m17_)) 17 rfl rfl (hon 17 rfl) rfl
     rw [QX17_ (hon 17 rfl)] at e30
     replace ha := aM_ ha
     have HB := aM_ QHB
     have Z4 := aM_ QZ4
     have B5 := aM_ (QB5 (hoff 20 rfl))
     have RV := aM_ (QRV hb_)
     have Nr0 := aM_ (QNr0 (hon 5 rfl))
     have Nr1 := aM_ (QNr1 (hon 10 rfl))
     have Nr2 := aM_ (QNr2 (hon 15 rfl))
     have NT := aM_ (QNT (hon 16 rfl))
     have EB := aM_ (QEB (hon 17 rfl) hb_)
     have Lge := aM_ (QLge (hon 17 rfl))
     obtain ⟨vv, w2, hr, o1, o2, o3⟩ := append_kd 44 92 _ 24 (by kernel_rfl) infoTent rfl (by decide) (by omega) RV.out HB.out HB.out.size ge ⟨ta, tb, tc⟩ [.int .i64 ta, .int .i64 tb, .int .i64 tc] EB.out (kI3_mkM _ _ _ ⟨ta, tb, tc⟩) (by have := HLX.out; omega)
     refine value_ (w1 := w2) (v := vv) (by rfl) rfl ?_ ?_
     ·exact run_append_opU (by rfl) e14 e30 hr
     refine hK.out _ _ ⟨r0, r1, r2, ta, tb, tc, ge, vv, m5_, m10_, m15_, m16_, m17_, (by rw [ha.out]; exact putSel_upk 18 hb_ rfl rfl rfl), o2, (o3.block g4 Z4.out.lt (Kd.R_ne RV.out Z4.out (by decide))).trans Z4.out, fun _ => (o3.block g5 B5.out.lt (Kd.R_ne RV.out B5.out (by decide))).trans B5.out, dE_ (up_self b 18), QNr0, QNr1, QNr2, QNT, fun _ => dE_ (up_self b 18), QLge, fun _ => o1, dD_ (hoff 20 rfl), QX5_, QX10_, QX15_, QX16_, QX17_⟩
    refine steps_cons ?_ ?_
    ·rintro b a w' ⟨r0, r1, r2, ta, tb, tc, ge, v1, m5_, m10_, m15_, m16_, m17_, ha, QHB, QZ4, QB5, QRV, QNr0, QNr1, QNr2, QNT, QEB, QLge, QRA, QB6, QX5_, QX10_, QX15_, QX16_, QX17_⟩ hb_ hon hoff
     refine ⟨_, rfl, fun K hK => ?_⟩
     have e5 : a.tmps[5]? = some (.pointer (some ⟨g5, 0, none⟩)) := by rw [ha]; exact (putSel_off rfl).trans rfl
     replace ha := aM_ ha
     have HB := aM_ QHB
     have Z4 := aM_ QZ4
     have B5 := aM_ (QB5 (hoff 20 rfl))
     have Nr0 := aM_ (QNr0 (hon 5 rfl))
     have Nr1 := aM_ (QNr1 (hon 10 rfl))
     have Nr2 := aM_ (QNr2 (hon 15 rfl))
     have NT := aM_ (QNT (hon 16 rfl))
     have Lge := aM_ (QLge (hon 17 rfl))
     have RA := aM_ (QRA (hon 18 rfl))
     refine value_ (w1 := w') (v := .pointer (some ⟨g5, 0, none⟩)) (by rfl) rfl ?_ ?_
     ·go_simp
      (try simp only [i64_w])
      try rfl
      try assumption
     refine hK.out _ _ ⟨r0, r1, r2, ta, tb, tc, ge, v1, m5_, m10_, m15_, m16_, m17_, (by rw [ha.out]; exact putSel_upk 19 hb_ rfl rfl rfl), QHB, QZ4, QB5, fun h0_ => absurd ((hon 18 rfl).symm.trans h0_) (by decide), QNr0, QNr1, QNr2, QNT, fun _ => dE_ (hon 18 rfl), QLge, QRA, dD_ (hoff 20 rfl), QX5_, QX10_, QX15_, QX16_, QX17_⟩
    refine steps_cons ?_ ?_
    ·rintro b a w' ⟨r0, r1, r2, ta, tb, tc, ge, v1, m5_, m10_, m15_, m16_, m17_, ha, QHB, QZ4, QB5, QRV, QNr0, QNr1, QNr2, QNT, QEB, QLge, QRA, QB6, QX5_, QX10_, QX15_, QX16_, QX17_⟩ hb_ hon hoff
     refine ⟨_, rfl, fun K hK => ?_⟩
     have e32 : a.tmps[32]? = some (.pointer (some ⟨g5, 0, none⟩)) := by rw [ha]; exact putSel_on (e := (19, 32, .pointer (some ⟨g5, 0, none⟩))) 19 rfl rfl (hon 19 rfl) rfl
     have e31 : a.tmps[31]? = some (v1) := by rw [ha]; exact putSel_on (e := (18, 31, v1)) 18 rfl rfl (hon 18 rfl) rfl
     replace ha := aM_ ha
     have HB := aM_ QHB
     have Z4 := aM_ QZ4
     have B5 := aM_ (QB5 hb_)
     have Nr0 := aM_ (QNr0 (hon 5 rfl))
     have Nr1 := aM_ (QNr1 (hon 10 rfl))
     have Nr2 := aM_ (QNr2 (hon 15 rfl))
     have NT := aM_ (QNT (hon 16 rfl))
     have Lge := aM_ (QLge (hon 17 rfl))
     have RA := aM_ (QRA (hon 18 rfl))
     have c0 := B5.out.cell 0
     simp only [gA_, gZ_, gS_] at c0
     have f0 := B5.out.frozen 0
     obtain ⟨A2, c2, hv2⟩ := Kd.R_slice RA.out
     have ho : v1.oneCell' = true := by rw [hv2]; rfl
     refine skip_ (w1 := (w'.setCell ⟨g5, 0, none⟩ (v1))) (by rfl) rfl ?_ ?_
     ·go_simp
     refine hK.out _ _ ⟨r0, r1, r2, ta, tb, tc, ge, v1, m5_, m10_, m15_, m16_, m17_, (by rw [ha.out]; exact putSel_none (v := undef) rfl), (bset HB.out HG5.out 0 (v1)), (Z4.out.far N45.out 0 (v1)), dE_ (up_self b 20), fun h0_ => absurd ((hon 18 rfl).symm.trans h0_) (by decide), QNr0, QNr1, QNr2, QNT, fun _ => dE_ (hon 18 rfl), QLge, fun _ => (Kd.R_set RA.out B5.out (by decide) 0 (v1)), fun _ => (B5.out.put 0 (v1) rfl), QX5_, QX10_, QX15_, QX16_, QX17_⟩
    exact steps_nil
   ·rintro b a w' hall ⟨r0, r1, r2, ta, tb, tc, ge, v1, m5_, m10_, m15_, m16_, m17_, ha, QHB, QZ4, QB5, QRV, QNr0, QNr1, QNr2, QNT, QEB, QLge, QRA, QB6, QX5_, QX10_, QX15_, QX16_, QX17_⟩
    clear B5 HB RV Z4
    have hb0_ := hall 0 (by kernel_rfl)
    have hb1_ := hall 1 (by kernel_rfl)
    have hb2_ := hall 2 (by kernel_rfl)
    have hb3_ := hall 3 (by kernel_rfl)
    have hb4_ := hall 4 (by kernel_rfl)
    have hb5_ := hall 5 (by kernel_rfl)
    have hb6_ := hall 6 (by kernel_rfl)
    have hb7_ := hall 7 (by kernel_rfl)
    have hb8_ := hall 8 (by kernel_rfl)
    have hb9_ := hall 9 (by kernel_rfl)
    have hb10_ := hall 10 (by kernel_rfl)
    have hb11_ := hall 11 (by kernel_rfl)
    have hb12_ := hall 12 (by kernel_rfl)
    have hb13_ := hall 13 (by kernel_rfl)
    have hb14_ := hall 14 (by kernel_rfl)
    have hb15_ := hall 15 (by kernel_rfl)
    have hb16_ := hall 16 (by kernel_rfl)
    have hb17_ := hall 17 (by kernel_rfl)
    have hb18_ := hall 18 (by kernel_rfl)
    have hb19_ := hall 19 (by kernel_rfl)
    have hb20_ := hall 20 (by kernel_rfl)
    subst ha
    obtain rfl := QX5_ hb5_
    obtain rfl := QX10_ hb10_
    obtain rfl := QX15_ hb15_
    obtain rfl := QX16_ hb16_
    obtain rfl := QX17_ hb17_
    simp only [putSel, hb0_, hb1_, hb2_, hb3_, hb4_, hb5_, hb6_, hb7_, hb8_, hb9_, hb10_, hb11_, hb12_, hb13_, hb14_, hb15_, hb16_, hb17_, hb18_, hb19_, hb20_, if_true, Act.put, List.setIfInBounds_toArray, List.set_cons_zero, List.set_cons_succ]
    have HB := aM_ QHB
    clear QHB
    have Z4 := aM_ QZ4
    clear QZ4
    clear QB5
    clear QRV
    have Nr0 := aM_ (QNr0 hb5_)
    clear QNr0
    have Nr1 := aM_ (QNr1 hb10_)
    clear QNr1
    have Nr2 := aM_ (QNr2 hb15_)
    clear QNr2
    have NT := aM_ (QNT hb16_)
    clear QNT
    clear QEB
    have Lge := aM_ (QLge hb17_)
    clear QLge
    have RA := aM_ (QRA hb18_)
    clear QRA
    have B6 := aM_ (QB6 hb20_)
    clear QB6
    clear hall hb0_ hb1_ hb2_ hb3_ hb4_ hb5_ hb6_ hb7_ hb8_ hb9_ hb10_ hb11_ hb12_ hb13_ hb14_ hb15_ hb16_ hb17_ hb18_ hb19_ hb20_
    generalize w' = w4 at *
    have HB4 := lH_ HB.out
    have RA4 := lH_ RA.out
    have B64 := lH_ B6.out
    have Z44 := lH_ Z4.out
    have HT4 := lH_ NT.out
    clear HB RA B6 Z4 NT
    go_wp2_with fail
    exact ⟨⟨k + 1, xs ++ [⟨ta, tb, tc⟩], v1, by go_num, by have := HKL.out; omega, lH_ (by rw [List.length_append, HL.out]; rfl), lH_ (fun x hx => by rcases List.mem_append.1 hx with h | h; exact HA.out x h; rw [List.mem_singleton.1 h]; exact HT4.out), Z44, B64, RA4, HB4⟩, by have := HKL.out; simp [intOf]; omega⟩
  ·have d1 : decide (k < n) = false := decide_eq_false hlt
   obtain rfl : k = n := by omega
   clear hlt
   have z0 := ZR.out.cell 0
   have f0 := ZR.out.frozen 0
   have b0 := BR.out.cell 0
   obtain ⟨A2, c2, rfl⟩ := Kd.R_slice RR.out
   simp only [gA_, gZ_, gS_] at z0 b0
   go_wp2_with fail
   refine bodyPost_ret (res_c (g := g4) rfl _ _ _ _ _ rfl (ZR.out.put 0 (.slice A2 xs.length c2) rfl) rfl Try.underlying46 (by kernel_rfl)) rfl ⟨xs, _, ?_, rfl, Kd.R_set RR.out ZR.out (by decide) 0 _, bset HBr.out HG4.out 0 _⟩
   unfold regB
   rw [HL.out]
   have h1 : (!xs.any fun t => !tentB t) = true := by
    rw [Bool.not_eq_true', List.any_eq_false]
    intro x hx
    rw [HA.out x hx]
    decide
   rw [h1]
   simp
   omega
/- the reference's Regions. -/
attribute [local go_sem] max2_int min2_int max_two min_two
theorem w9k (k : Nat) (h : k ≤ 3) : IntKind.i64.wrap (9 * (k : Int)) = 9 * (k : Int) := IntWalk.i64_in _ (by omega)
theorem regions_any (l : List Int) (A : Option Addr) (c : Nat) (n m : Nat) (w : World) (hn : n ≤ 3) (hm : m ≤ 3) (hC : Kd.C kI w A l.length l) (hc : l.length ≤ c) : Calls Try.prog 25 #[.slice A l.length c, .int .i64 (n : Int), .int .i64 (m : Int)] w fun e w' => ∃ (rs : List (List I3)) (v : Value), rs.length = m ∧ (∀ x ∈ rs, regB x n = true) ∧ e = .returned v ∧ Kd.R kRg 46 w' w.heap.size (fun _ => True) v rs ∧ Below w.heap.size w w' := by
 have HC := lH_ hC
 have HCP := lH_ hc
 have hlm : l.length ≤ 9223372036854775807 := hC.2.1
 clear hC hc
 go_enter Try.func25, Try.ntmps25
 go_wp2_with fail
 go_loopw [7, 8] (fun v i wr => ∃ (k : Nat) (rs : List (List I3)), i = .int .i64 (k : Int) ∧ k ≤ m ∧ Hid (rs.length = k) ∧ Hid (∀ x ∈ rs, regB x n = true) ∧ Hid (Kd.R kRg 46 wr w.heap.size (fun _ => True) v rs) ∧ Hid (Below w.heap.size w wr)) (fun _ i _ => m - (intOf i).toNat)
 case atStart => exact ⟨0, [], rfl, Nat.zero_le _, lH_ rfl, lH_ (fun x hx => by cases hx), lH_ (Kd.R_nil _ _ _ _ _), lH_ (Below.refl _ _)⟩
 case round =>
  obtain ⟨k, rs, rfl, hk, HL, HA, HR, HBr⟩ := hrel
  by_cases hlt : k < m
  ·have d1 : decide (k < m) = true := decide_eq_true hlt
   have d2 : decide ((k : Int) < (m : Int)) = true := decide_eq_true (by omega)
   have HKL := lH_ hlt
   have hw := w9k k (by omega)
   obtain ⟨j, hj, hjl⟩ : ∃ j : Nat, (if 9 * (k : Int) < (l.length : Int) then 9 * (k : Int) else (l.length : Int)) = (j : Int) ∧ j ≤ l.length := by
    by_cases h : 9 * (k : Int) < (l.length : Int)
    ·exact ⟨9 * k, by rw [if_pos h]; omega, by omega⟩
    ·exact ⟨l.length, by rw [if_neg h], Nat.le_refl _⟩
   obtain ⟨i0, hi0⟩ : ∃ i, Try.prog.info? 3 = some i := Option.isSome_iff_exists.1 (by kernel_rfl)
   have hsz : i0.size = 1 := by have h := infoInt; rw [hi0] at h; simp at h; exact h.2.1
   obtain ⟨A2, hcut, hA2, _⟩ := print_drop_of (P := Try.prog) (Value.int .i64) 0 30 3 .i64 Try.underlying30 hi0 hsz A c l (j : Int) (by omega) (by omega) HCP.out
   have HC2 : Hid (Kd.C kI wr A2 (l.drop j).length (l.drop j)) := lH_ (Kd.C_of_reads (h1 := fun _ => rfl) (hA2 _ (Kd.reads_of_C (h1 := fun _ => rfl) (show Kd.C (Kd.int .i64) wr A l.length l from Kd.C_below HC.out HBr.out))))
   rw [Int.toNat_natCast] at hcut
   obtain ⟨Av, cv, rfl⟩ := Kd.R_slice HR.out
   clear hA2 hi0 hsz
   go_wp2_with fail
   rw [show l.length - j = (l.drop j).length from List.length_drop.symm]
   refine (madeReg_any (l.drop j) A2 (c - j) n wr hn HC2.out).mono ?_
   rintro e w3 ⟨xs, v, hreg, rfl, hv, hb⟩
   have HB3 := lH_ (bthen' HBr.out hb)
   have HV3 := lH_ (Kd.R_below HR.out hb)
   obtain ⟨A1, c1, rfl⟩ := Kd.R_slice hv
   have HRG := lH_ hreg
   have HP3 : Hid (kRg.M w3 w.heap.size (fun k => True ∧ wr.heap.size ≤ k ∧ k < w3.heap.size ∧ ∃ q, q ∈ 92 :: kI3.E ∧ ∃ cells, w3.heap[k]? = some (.cells cells q (0, 0))) xs [.slice A1 xs.length c1]) := lH_ ⟨_, rfl, Kd.R_lower (Kd.R_bound hv) HBr.out.size⟩
   have HOK := lH_ (fun j_ (h : True ∧ wr.heap.size ≤ j_ ∧ j_ < w3.heap.size ∧ ∃ q, q ∈ 92 :: kI3.E ∧ ∃ cells, w3.heap[j_]? = some (.cells cells q (0, 0))) => (⟨trivial, fun e => by have h1 := (Kd.R_bound HR.out).1 j_ e.symm; have := h.2.1; have := h1.2.2.1; omega⟩ : True ∧ some j_ ≠ (Value.slice Av rs.length cv).ownBlock))
   have HLX := lH_ (show rs.length ≤ 3 by have := HL.out; omega)
   clear hb hv hreg hcut
   go_wp2_with (at_builtin; go_loud (refine Kd.R_append kRg (W := w3) (w0 := w) w.heap.size rfl (.tmp 14) (.tmp 24) 36 46 _ 24 rfl (by kernel_rfl) infoRg rfl (by decide) (by omega) (.slice Av rs.length cv) rs xs [.slice A1 xs.length c1] (fun _ => True) _ rfl rfl HP3.out HOK.out (fun _ _ => trivial) HV3.out HB3.out HB3.out.size (by have := HLX.out; omega) ?_); intro v4 w4 hR4 hB4 hG4 hat4; obtain ⟨A4, c4, rfl⟩ := Kd.R_slice hR4; have HR4 := lH_ hR4; have HB4 := lH_ hB4; clear hR4 hB4 hG4 hat4)
   have HR5 := HR4.out
   rw [List.length_append, List.length_singleton] at HR5
   have HR6 := lH_ HR5
   exact ⟨⟨k + 1, rs ++ [xs], by go_num, by have := HKL.out; omega, lH_ (by rw [List.length_append, HL.out]; rfl), lH_ (fun x hx => by rcases List.mem_append.1 hx with h | h; exact HA.out x h; rw [List.mem_singleton.1 h]; exact HRG.out), HR6, HB4⟩, by have := HKL.out; simp [intOf]; omega⟩
  ·have d1 : decide (k < m) = false := decide_eq_false hlt
   have d2 : decide ((k : Int) < (m : Int)) = false := decide_eq_false (by omega)
   have HE := lH_ (show rs.length = m by have := HL.out; omega)
   clear hlt
   go_wp2_with fail
   go_ret
   exact ⟨rs, _, HE.out, HA.out, rfl, HR.out, HBr.out⟩
end Go.Proofs.Ythpccdhmppbkfaa
/- the reference's Points, moves. -/
namespace Go.Proofs.Ythpccdhmppbkfaa
open Go.RowKit Go.Shelf Go.Proofs.YthpccdhmppbkfaaW.PrintWords Go.Proofs.YthpccdhmppbkfaaW.PrintLast Go.Proofs.YthpccdhmppbkfaaW.PrintMore
theorem rfPoints_any (g : Gl) (h : Hd) (w : World) (hg : GlR w g h) (hf1 : g.ct.length ≤ 1000000) (hf2 : g.an.length ≤ 1000000) (hf3 : ptsN g.ct ≤ 1000000) : Calls Try.prog 17 #[.agg (gv g h)] w fun e w' => e = .returned (.int .i64 (g.pts : Int)) ∧ Below w.heap.size w w' := by
 have HG := lH_ hg
 have HE : Hid (g.pts = g.an.length + 1 + ptsN g.ct) := lH_ rfl
 clear hg
 go_enter Try.func17, Try.ntmps17
 unfold gv
 go_upto_region 1 with fail
 obtain ⟨w1, b, hw0_, hg0_, Xb_, Yb_, _⟩ := new_box w #[.slice h.a1 g.ct.length h.c1, .slice h.a2 g.an.length h.c2, .int .i64 g.hang.a, .int .i64 g.hang.b, .int .i64 g.hang.c, .int .i64 g.adv, .slice h.a3 g.dl.length h.c3, .slice h.a4 g.pr.length h.c4] 29
 rw [hw0_, hg0_]
 have Eb := lH_ (show b = w.heap.size + 0 by omega)
 clear hw0_ hg0_
 have HXw1 := lH_ (Yb_.out)
 have Bb := lH_ (Xb_.out)
 clear Xb_ Yb_
 have HG1 := lH_ (HG.out.below HXw1.out)
 have c0 := Bb.out.cell 0
 have c1 := Bb.out.cell 1
 simp only [gA_, gZ_, gS_] at c0 c1
 go_wp2_with fail
 clear c1
 have hl1 : g.ct.length ≤ 9223372036854775807 := by omega
 go_loop [3, 4] (fun s i => ∃ k : Nat, i = .int .i64 k ∧ k ≤ g.ct.length ∧ s = .int .i64 ((g.an.length : Int) + 1 + (ptsN (g.ct.take k) : Int))) (fun _ i => g.ct.length - (intOf i).toNat)
 case atStart => exact ⟨0, rfl, Nat.zero_le _, by simp [ptsN]⟩
 case round =>
  obtain ⟨k, rfl, hk, rfl⟩ := hrel
  by_cases hlt : k < g.ct.length
  ·have d1 : decide (k < g.ct.length) = true := decide_eq_true hlt
   obtain ⟨ad, c0_, had, hK, g0⟩ := el1 (d := kCt) rfl HG1.out.ct [] k hlt
   obtain ⟨A0, n0, hc0, _, h2⟩ := kSl_open hK
   obtain rfl : c0_ = .slice A0 (g.ct.getD k []).length n0 := List.head_eq_of_cons_eq hc0
   have HS := lH_ (ptsN_take g.ct k hlt)
   have hle := ptsN_le g.ct (k + 1)
   rw [HS.out] at hle
   generalize g.ct.getD k [] = C at *
   generalize ptsN (g.ct.take k) = s at *
   have b0 : (0 : Int) ≤ (k : Int) := by omega
   have hb1 : (k : Int) < (g.ct.length : Int) := by omega
   clear h2 hK hc0
   obtain ⟨a1, m1, a2, m2, a3, m3, a4, m4⟩ := h
   dsimp only at had c0 ⊢
   subst had
   go_wp2_with fail
   exact ⟨⟨k + 1, by go_num, by omega, by rw [HS.out]; congr 1; omega⟩, by simp [intOf]; omega⟩
  ·have d1 : decide (k < g.ct.length) = false := decide_eq_false hlt
   have hkk : g.ct.take k = g.ct := List.take_of_length_le (by omega)
   rw [hkk]
   clear hkk
   go_wp2_with fail
   go_ret
   exact ⟨ret_int (by rw [HE.out]; omega), HXw1.out⟩
def DrS (w0 : World) (gd : Nat) (A : Option Addr) (c : Nat) (ls : List Int) (w : World) : Prop := ∃ p, Dr w0 gd A c ls p w
def LastOk (k n : Nat) (a : Int) (ms : List I2) : Prop := k = n → a = 0 → ms.getD (n - 1) zI2 = zI2
def MvOk (g : Gl) (ms : List I2) : Prop := ms.length = g.pts ∧ (∀ m ∈ ms, -10 ≤ m.a ∧ m.a ≤ 10 ∧ -10 ≤ m.b ∧ m.b ≤ 10) ∧ (g.hang.a = 0 → ms.getD (g.pts - 1) zI2 = zI2)
theorem kI2_put {w : World} {base g : Nat} {t : TypeId} {v : Value} {xs : List I2} (h : Kd.R kI2 t w base (fun _ => True) v xs) (hb : v.ownBlock ≠ some g) (v0 v1 : Value) : Kd.R kI2 t ((w.setCell ⟨g, 0, none⟩ v0).setCell ⟨g, 1, none⟩ v1) base (fun _ => True) v xs := by
 have h1 : Kd.R kI2 t w base (fun k => k ≠ g) v xs := ⟨fun k hk e => hb (by rw [hk, e]), h.2⟩
 exact Kd.R_mono (Kd.R_far (p := ⟨g, 1, none⟩) (Kd.R_far (p := ⟨g, 0, none⟩) h1 (fun _ hk => hk) v0) (fun _ hk => hk) v1) (fun _ _ => trivial)
theorem moves_any (g : Gl) (h : Hd) (rg : Int) (w0 : World) (gd : Nat) (A : Option Addr) (c : Nat) (ls : List Int) (p : Nat) (w : World) (hGR : ∀ w', Sc w.heap.size gd w w' → GlR w' g h) (hf1 : g.ct.length ≤ 1000000) (hf2 : g.an.length ≤ 1000000) (hf3 : ptsN g.ct ≤ 1000000) (hfp : g.pts ≤ 40) (hw0 : w0.heap.size ≤ w.heap.size) (hd : Dr w0 gd A c ls p w) :
  Calls Try.prog 65 #[.agg (gv g h), .int .i64 rg, .pointer (some ⟨gd, 0, none⟩)] w fun e w' => ∃ (av : Int) (ms : List I2) (v : Value), e = .returned (.agg #[.int .i64 rg, .int .i64 av, v]) ∧ (-10 ≤ av ∧ av ≤ 20) ∧ MvOk g ms ∧ Kd.R kI2 62 w' w.heap.size (fun _ => True) v ms ∧ Sc w.heap.size gd w w' ∧ DrS w0 gd A c ls w' := by
 have HGR := lH_ hGR
 have HW0 := lH_ hw0
 clear hGR hw0
 go_enter Try.func65, Try.ntmps65
 unfold gv
 go_upto_region 1 with fail
 obtain ⟨wa, gG, hw0_, hg0_, XgG_, YgG_, _⟩ := new_box w #[.slice h.a1 g.ct.length h.c1, .slice h.a2 g.an.length h.c2, .int .i64 g.hang.a, .int .i64 g.hang.b, .int .i64 g.hang.c, .int .i64 g.adv, .slice h.a3 g.dl.length h.c3, .slice h.a4 g.pr.length h.c4] 29
 obtain ⟨wb, gZ, hw1_, hg1_, XgZ_, YgZ_, _⟩ := new_box wa #[.int .i64 0, .int .i64 0, .slice none 0 0] 59
 have s1_ : w.heap.size + 1 = gZ := by rw [← hg1_, ← hw0_]; simp
 rw [hw0_, hw1_, s1_, hg0_]
 have EgG := lH_ (show gG = w.heap.size + 0 by omega)
 have EgZ := lH_ (show gZ = w.heap.size + 1 by omega)
 clear hw0_ hg0_ hw1_ hg1_ s1_
 have HXwb := lH_ (bthen' (YgG_.out) YgZ_.out)
 have BgG := lH_ ((XgG_.out).below YgZ_.out)
 have BgZ := lH_ (XgZ_.out)
 clear XgG_ YgG_ XgZ_ YgZ_
 have HGD := lH_ hd.box.lt
 have NG := lH_ (show gG ≠ gd by have := EgG.out; have := HGD.out; omega)
 have NZ := lH_ (show gZ ≠ gd by have := EgZ.out; have := HGD.out; omega)
 have HGZ := lH_ (show w.heap.size ≤ gZ by have := EgZ.out; omega)
 have HS := lH_ (Sc.of HXwb.out (Nat.le_refl _) (Nat.le_of_lt HGD.out))
 have HD := lH_ (hd.below_ HXwb.out)
 clear hd
 go_wp2_with fail
 refine (next_any w0 gd A c ls _ 30 wb (by omega) (by omega) HD.out).mono ?_
 rintro e v1 ⟨r1, p1, rfl, hr1, hs, hd⟩
 replace BgG := lH_ (hs.blk BgG.out BgG.out.lt NG.out)
 replace BgZ := lH_ (hs.blk BgZ.out BgZ.out.lt NZ.out)
 replace HS := lH_ (HS.out.trans (hs.mono HS.out.size))
 replace HD := lH_ hd
 clear hs hd
 have ha1 : IntKind.i64.wrap (r1 - 10) = r1 - 10 := IntWalk.i64_in _ (by omega)
 go_upto_region 2 with fail
 obtain ⟨v2, gD, hw0_, hg0_, XgD_, YgD_, _⟩ := new_box v1 #[.int .i64 rg, .int .i64 (r1 - 10), .slice none 0 0] 59
 rw [hw0_, hg0_]
 have EgD := lH_ (show gD = v1.heap.size + 0 by omega)
 clear hw0_ hg0_
 have HXv2 := lH_ (YgD_.out)
 have BgD := lH_ (XgD_.out)
 clear XgD_ YgD_
 have NDl := lH_ (show gD ≠ gd by have := HS.out.size; have := EgD.out; have := HGD.out; omega)
 have HGG := lH_ (show gG < gD by have := BgG.out.lt; have := EgD.out; omega)
 have HZD := lH_ (show gZ < gD by have := BgZ.out.lt; have := EgD.out; omega)
 have HGDl := lH_ (show w.heap.size ≤ gD by have := HS.out.size; have := EgD.out; omega)
 replace BgG := lH_ (BgG.out.below HXv2.out)
 replace BgZ := lH_ (BgZ.out.below HXv2.out)
 replace HS := lH_ (HS.out.step HS.out.size (Nat.le_trans (Nat.le_of_lt HGD.out) HS.out.size) HXv2.out)
 replace HD := lH_ (HD.out.below_ HXv2.out)
 have c0 := BgG.out.cell 0
 have c1 := BgG.out.cell 1
 have c2 := BgG.out.cell 2
 have c3 := BgG.out.cell 3
 have c4 := BgG.out.cell 4
 have c5 := BgG.out.cell 5
 have c6 := BgG.out.cell 6
 have c7 := BgG.out.cell 7
 simp only [gA_, gZ_, gS_] at c0 c1 c2 c3 c4 c5 c6 c7
 go_wp2_with fail
 refine (rfPoints_any g h v2 (HGR.out v2 HS.out) hf1 hf2 hf3).mono ?_
 rintro e v3 ⟨rfl, hb⟩
 have HXv3 := lH_ hb
 clear hb c0 c1 c2 c3 c4 c5 c6 c7
 replace BgG := lH_ (BgG.out.below HXv3.out)
 replace BgZ := lH_ (BgZ.out.below HXv3.out)
 replace BgD := lH_ (BgD.out.below HXv3.out)
 replace HS := lH_ (HS.out.step HS.out.size (Nat.le_trans (Nat.le_of_lt HGD.out) HS.out.size) HXv3.out)
 replace HD := lH_ (HD.out.below_ HXv3.out)
 obtain ⟨n, hn⟩ : ∃ n, g.pts = n := ⟨_, rfl⟩
 rw [hn] at hfp ⊢
 have HN := lH_ hn
 clear hn
 have HA1 := lH_ (show -10 ≤ r1 - 10 ∧ r1 - 10 ≤ 20 by omega)
 generalize r1 - 10 = av at *
 go_wp2_with fail
 go_loopw [9] (fun i wr => ∃ (k : Nat) (ms : List I2) (v : Value), i = .int .i64 (k : Int) ∧ k ≤ n ∧ Hid (ms.length = k) ∧ Hid (∀ m ∈ ms, -10 ≤ m.a ∧ m.a ≤ 10 ∧ -10 ≤ m.b ∧ m.b ≤ 10) ∧ Hid (LastOk k n g.hang.a ms) ∧ Hid (Blk wr gG #[.slice h.a1 g.ct.length h.c1, .slice h.a2 g.an.length h.c2, .int .i64 g.hang.a, .int .i64 g.hang.b, .int .i64 g.hang.c, .int .i64 g.adv, .slice h.a3 g.dl.length h.c3, .slice h.a4 g.pr.length h.c4] 29) ∧ Hid (Blk wr gZ #[.int .i64 0, .int .i64 0, .slice none 0 0] 59) ∧ Hid (Blk wr gD #[.int .i64 rg, .int .i64 av, v] 59) ∧ Hid (Kd.R kI2 62 wr w.heap.size (fun _ => True) v ms) ∧ Hid (Sc w.heap.size gd w wr) ∧ Hid (DrS w0 gd A c ls wr)) (fun i _ => n - (intOf i).toNat)
 case atStart => exact ⟨0, [], _, rfl, Nat.zero_le _, lH_ rfl, lH_ (fun x hx => by cases hx), lH_ (fun h => by have h9 := HN.out; unfold Gl.pts at h9; omega), BgG, BgZ, BgD, lH_ (Kd.R_nil _ _ _ _ _), HS, lH_ ⟨_, HD.out⟩⟩
 case round =>
  clear BgG BgZ BgD HS HD HXv2 HXv3
  obtain ⟨k, ms, v, rfl, hk, HL, HOKM, HLAST, BgG, BgZ, BgD, HR, HS, HDS⟩ := hrel
  obtain ⟨p, hdp⟩ := HDS.out
  have HD := lH_ hdp
  clear hdp HDS
  by_cases hlt : k < n
  ·have d1 : decide (k < n) = true := decide_eq_true hlt
   have d2 : decide ((k : Int) < (n : Int)) = true := decide_eq_true (by omega)
   have HKL := lH_ hlt
   have HK40 := lH_ (show k ≤ 40 by omega)
   go_wp2_with fail
   refine (next_any w0 gd A c ls _ 21 wr (by omega) (by omega) HD.out).mono ?_
   rintro e x3 ⟨r3, p3, rfl, hr3, hs, hd⟩
   replace BgG := lH_ (hs.blk BgG.out BgG.out.lt NG.out)
   replace BgZ := lH_ (hs.blk BgZ.out BgZ.out.lt NZ.out)
   replace BgD := lH_ (hs.blk BgD.out BgD.out.lt NDl.out)
   replace HR := lH_ (Sc.R HR.out HD.out.box (by decide) hs)
   replace HS := lH_ (HS.out.trans (hs.mono HS.out.size))
   replace HD := lH_ hd
   clear hs hd
   have ha3 : IntKind.i64.wrap (r3 - 10) = r3 - 10 := IntWalk.i64_in _ (by omega)
   go_wp2_with fail
   refine (next_any w0 gd A c ls _ 21 x3 (by omega) (by omega) HD.out).mono ?_
   rintro e x4 ⟨r4, p4, rfl, hr4, hs, hd⟩
   replace BgG := lH_ (hs.blk BgG.out BgG.out.lt NG.out)
   replace BgZ := lH_ (hs.blk BgZ.out BgZ.out.lt NZ.out)
   replace BgD := lH_ (hs.blk BgD.out BgD.out.lt NDl.out)
   replace HR := lH_ (Sc.R HR.out HD.out.box (by decide) hs)
   replace HS := lH_ (HS.out.trans (hs.mono HS.out.size))
   replace HD := lH_ hd
   clear hs hd
   have ha4 : IntKind.i64.wrap (r4 - 10) = r4 - 10 := IntWalk.i64_in _ (by omega)
   go_upto_region 7 with fail
   obtain ⟨Av, cw, rfl⟩ := Kd.R_slice HR.out
   have HR4_ := HR
   obtain ⟨x5, gM, hw0_, hg0_, XgM_, YgM_, _⟩ := new_box x4 #[.int .i64 (r3 - 10), .int .i64 (r4 - 10)] 62
   rw [hw0_, hg0_]
   have EgM := lH_ (show gM = x4.heap.size + 0 by omega)
   clear hw0_ hg0_
   have HXx5 := lH_ (YgM_.out)
   have BgM := lH_ (XgM_.out)
   clear XgM_ YgM_
   have NM := lH_ (show gM ≠ gd by have := HS.out.size; have := EgM.out; have := HGD.out; omega)
   have HGM := lH_ (show w.heap.size ≤ gM by have := HS.out.size; have := EgM.out; omega)
   have NMD := lH_ (show gM ≠ gD by have := BgD.out.lt; have := EgM.out; omega)
   have NMG := lH_ (show gM ≠ gG by have := BgG.out.lt; have := EgM.out; omega)
   have NMZ := lH_ (show gM ≠ gZ by have := BgZ.out.lt; have := EgM.out; omega)
   replace BgG := lH_ (BgG.out.below HXx5.out)
   replace BgZ := lH_ (BgZ.out.below HXx5.out)
   replace BgD := lH_ (BgD.out.below HXx5.out)
   replace HR := lH_ (Kd.R_below HR.out HXx5.out)
   replace HS := lH_ (HS.out.step HS.out.size (Nat.le_trans (Nat.le_of_lt HGD.out) HS.out.size) HXx5.out)
   replace HD := lH_ (HD.out.below_ HXx5.out)
   have hb3 : -10 ≤ r3 - 10 ∧ r3 - 10 ≤ 10 := by omega
   have hb4 : -10 ≤ r4 - 10 ∧ r4 - 10 ≤ 10 := by omega
   have HB34 := lH_ (show (-10 ≤ r3 - 10 ∧ r3 - 10 ≤ 10) ∧ -10 ≤ r4 - 10 ∧ r4 - 10 ≤ 10 from ⟨hb3, hb4⟩)
   clear hb3 hb4 ha3 ha4 hr3 hr4
   generalize r3 - 10 = m0 at *
   generalize r4 - 10 = m1 at *
   have hwn : IntKind.i64.wrap ((n : Int) - 1) = (n : Int) - 1 := IntWalk.i64_in _ (by omega)
   have c2 := BgG.out.cell 2
   simp only [gA_, gZ_, gS_] at c2
   have HNB := lH_ (show (Value.slice Av ms.length cw).ownBlock ≠ some gM from fun e => by have h1 := (Kd.R_bound HR4_.out).1 _ e; have := h1.2.2.1; have := EgM.out; omega)
   by_cases hk1 : k = n - 1
   ·have e1 : ((k : Int) == (n : Int) - 1) = true := by simp; omega
    have e2 : decide ((k : Int) = (n : Int) - 1) = true := by simp; omega
    clear hk1
    by_cases hh : g.hang.a = 0
    ·have e3 : (g.hang.a == 0) = true := by simpa using hh
     have e4 : decide (g.hang.a = 0) = true := decide_eq_true hh
     clear hh
     have f0 := BgM.out.frozen 0
     have f1 := BgM.out.frozen 1
     have m0 := BgM.out.cell 0
     have m1 := BgM.out.cell 1
     simp only [gA_, gZ_, gS_] at m0 m1
     go_upto_region 9 with fail
     replace BgG := lH_ ((BgG.out.far (Ne.symm NMG.out) 0 (.int .i64 0)).far (Ne.symm NMG.out) 1 (.int .i64 0))
     replace BgZ := lH_ ((BgZ.out.far (Ne.symm NMZ.out) 0 (.int .i64 0)).far (Ne.symm NMZ.out) 1 (.int .i64 0))
     replace BgD := lH_ ((BgD.out.far (Ne.symm NMD.out) 0 (.int .i64 0)).far (Ne.symm NMD.out) 1 (.int .i64 0))
     replace HS := lH_ ((HS.out.trans (Sc.setN x5 HGM.out (Nat.le_trans (Nat.le_of_lt HGD.out) HGM.out) 0 (.int .i64 0))).trans (Sc.setN _ HGM.out (Nat.le_trans (Nat.le_of_lt HGD.out) HGM.out) 1 (.int .i64 0)))
     replace HD : Hid (Dr w0 gd A c ls p4 _) := lH_ ⟨(HD.out.box.far (Ne.symm NM.out) 0 (.int .i64 0)).far (Ne.symm NM.out) 1 (.int .i64 0), HD.out.row, HD.out.at_, HD.out.far, bset (bset HD.out.below (Nat.le_trans HW0.out HGM.out) 0 (.int .i64 0)) (Nat.le_trans HW0.out HGM.out) 1 (.int .i64 0)⟩
     replace HR : Hid (Kd.R kI2 62 _ w.heap.size (fun _ => True) (.slice Av ms.length cw) ms) := lH_ (kI2_put HR.out HNB.out (.int .i64 0) (.int .i64 0))
     replace BgM : Hid (Blk _ gM #[.int .i64 0, .int .i64 0] 62) := lH_ ((BgM.out.put 0 (.int .i64 0) rfl).put 1 (.int .i64 0) rfl)
     clear f0 f1 m0 m1 c2
     generalize World.setCell (World.setCell _ _ _) _ _ = x6 at *
     have b0 := BgM.out.cell 0
     have b1 := BgM.out.cell 1
     simp only [gA_, gZ_, gS_] at b0 b1
     have q2 := BgD.out.cell 2
     simp only [gA_, gZ_, gS_] at q2
     go_wp2_with (at_builtin; go_loud (refine Kd.R_append kI2 (W := x6) (w0 := x6) w.heap.size rfl (.tmp 42) (.tmp 44) 57 62 _ 16 rfl (by kernel_rfl) infoMv rfl (by decide) (by omega) (.slice Av ms.length cw) ms ⟨0, 0⟩ [.int .i64 0, .int .i64 0] (fun _ => True) (fun _ => False) rfl rfl (kI2_mkM _ _ _ ⟨0, 0⟩) (fun _ h => h.elim) (fun _ _ => trivial) HR.out (Below.refl _ _) HS.out.size (by have := HL.out; have := HK40.out; omega) ?_); intro v9 w9 hR9 hB9 hG9 hat9; obtain ⟨A9, c9, rfl⟩ := Kd.R_slice hR9; have HR9 := lH_ hR9; have HB9 := lH_ hB9; have HG9 := lH_ hG9; have BD9 : Hid (Blk w9 gD #[.int .i64 rg, .int .i64 av, .slice Av ms.length cw] 59) := lH_ ((hG9.block gD BgD.out.lt (Kd.R_ne HR.out BgD.out (by decide))).trans BgD.out); have BG9 := lH_ ((hG9.block gG BgG.out.lt (Kd.R_ne HR.out BgG.out (by decide))).trans BgG.out); have BZ9 := lH_ ((hG9.block gZ BgZ.out.lt (Kd.R_ne HR.out BgZ.out (by decide))).trans BgZ.out); have BX9 := lH_ ((hG9.block gd HD.out.box.lt (Kd.R_ne HR.out HD.out.box (by decide))).trans HD.out.box); have hx9 := BD9.out.cell 2; have hz9 := BD9.out.frozen 2; simp only [gA_, gZ_, gS_] at hx9; clear hR9 hB9 hG9 hat9 q2 b0 b1)
     have HR10 := HR9.out
     rw [List.length_append, List.length_singleton] at HR10
     have NDG := lH_ (show gG ≠ gD by have h1 := HGG.out; omega)
     have NDZ := lH_ (show gZ ≠ gD by have h1 := HZD.out; omega)
     exact ⟨⟨k + 1, ms ++ [⟨0, 0⟩], .slice A9 (ms.length + 1) c9, by go_num, by have := HKL.out; omega, lH_ (by rw [List.length_append, HL.out]; rfl), lH_ (fun x hx => by rcases List.mem_append.1 hx with h | h; exact HOKM.out x h; rw [List.mem_singleton.1 h]; exact ⟨by decide, by decide, by decide, by decide⟩), lH_ (fun h9 hz => by have h8 := HL.out; rw [List.getD_eq_getElem?_getD, List.getElem?_append_right (by omega), show n - 1 - ms.length = 0 by omega]; rfl), lH_ (Blk.far BG9.out NDG.out 2 _), lH_ (Blk.far BZ9.out NDZ.out 2 _), lH_ (BD9.out.put 2 _ rfl), lH_ (Kd.R_set HR10 BD9.out (by decide) 2 _), lH_ ((HS.out.trans ((Sc.of HB9.out (Nat.le_refl _) (Nat.le_of_lt HGD.out)))).trans (Sc.setN _ HGDl.out (Nat.le_trans (Nat.le_of_lt HGD.out) HGDl.out) 2 _)), lH_ ⟨_, Blk.far BX9.out (Ne.symm NDl.out) 2 _, HD.out.row, HD.out.at_, HD.out.far, bset (HD.out.below.trans (HB9.out.mono HW0.out)) (Nat.le_trans HW0.out HGDl.out) 2 _⟩⟩, by have := HKL.out; simp [intOf]; omega⟩
    ·have e3 : (g.hang.a == 0) = false := by simpa using hh
     have e4 : decide (g.hang.a = 0) = false := decide_eq_false hh
     have HH := lH_ hh
     clear hh
     go_upto_region 9 with fail
     clear c2
     have b0 := BgM.out.cell 0
     have b1 := BgM.out.cell 1
     simp only [gA_, gZ_, gS_] at b0 b1
     have q2 := BgD.out.cell 2
     simp only [gA_, gZ_, gS_] at q2
     go_wp2_with (at_builtin; go_loud (refine Kd.R_append kI2 (W := x5) (w0 := x5) w.heap.size rfl (.tmp 42) (.tmp 44) 57 62 _ 16 rfl (by kernel_rfl) infoMv rfl (by decide) (by omega) (.slice Av ms.length cw) ms ⟨m0, m1⟩ [.int .i64 m0, .int .i64 m1] (fun _ => True) (fun _ => False) rfl rfl (kI2_mkM _ _ _ ⟨m0, m1⟩) (fun _ h => h.elim) (fun _ _ => trivial) HR.out (Below.refl _ _) HS.out.size (by have := HL.out; have := HK40.out; omega) ?_); intro v9 w9 hR9 hB9 hG9 hat9; obtain ⟨A9, c9, rfl⟩ := Kd.R_slice hR9; have HR9 := lH_ hR9; have HB9 := lH_ hB9; have HG9 := lH_ hG9; have BD9 : Hid (Blk w9 gD #[.int .i64 rg, .int .i64 av, .slice Av ms.length cw] 59) := lH_ ((hG9.block gD BgD.out.lt (Kd.R_ne HR.out BgD.out (by decide))).trans BgD.out); have BG9 := lH_ ((hG9.block gG BgG.out.lt (Kd.R_ne HR.out BgG.out (by decide))).trans BgG.out); have BZ9 := lH_ ((hG9.block gZ BgZ.out.lt (Kd.R_ne HR.out BgZ.out (by decide))).trans BgZ.out); have BX9 := lH_ ((hG9.block gd HD.out.box.lt (Kd.R_ne HR.out HD.out.box (by decide))).trans HD.out.box); have hx9 := BD9.out.cell 2; have hz9 := BD9.out.frozen 2; simp only [gA_, gZ_, gS_] at hx9; clear hR9 hB9 hG9 hat9 q2 b0 b1)
     have HR10 := HR9.out
     rw [List.length_append, List.length_singleton] at HR10
     have NDG := lH_ (show gG ≠ gD by have h1 := HGG.out; omega)
     have NDZ := lH_ (show gZ ≠ gD by have h1 := HZD.out; omega)
     exact ⟨⟨k + 1, ms ++ [⟨m0, m1⟩], .slice A9 (ms.length + 1) c9, by go_num, by have := HKL.out; omega, lH_ (by rw [List.length_append, HL.out]; rfl), lH_ (fun x hx => by rcases List.mem_append.1 hx with h | h; exact HOKM.out x h; rw [List.mem_singleton.1 h]; exact ⟨HB34.out.1.1, HB34.out.1.2, HB34.out.2.1, HB34.out.2.2⟩), lH_ (fun _ hz => absurd hz HH.out), lH_ (Blk.far BG9.out NDG.out 2 _), lH_ (Blk.far BZ9.out NDZ.out 2 _), lH_ (BD9.out.put 2 _ rfl), lH_ (Kd.R_set HR10 BD9.out (by decide) 2 _), lH_ ((HS.out.trans ((Sc.of HB9.out (Nat.le_refl _) (Nat.le_of_lt HGD.out)))).trans (Sc.setN _ HGDl.out (Nat.le_trans (Nat.le_of_lt HGD.out) HGDl.out) 2 _)), lH_ ⟨_, Blk.far BX9.out (Ne.symm NDl.out) 2 _, HD.out.row, HD.out.at_, HD.out.far, bset (HD.out.below.trans (HB9.out.mono HW0.out)) (Nat.le_trans HW0.out HGDl.out) 2 _⟩⟩, by have := HKL.out; simp [intOf]; omega⟩
   ·have e1 : ((k : Int) == (n : Int) - 1) = false := by simp; omega
    have e2 : decide ((k : Int) = (n : Int) - 1) = false := by simp; omega
    have HK1 := lH_ hk1
    clear hk1
    go_upto_region 9 with fail
    clear c2
    have b0 := BgM.out.cell 0
    have b1 := BgM.out.cell 1
    simp only [gA_, gZ_, gS_] at b0 b1
    have q2 := BgD.out.cell 2
    simp only [gA_, gZ_, gS_] at q2
    go_wp2_with (at_builtin; go_loud (refine Kd.R_append kI2 (W := x5) (w0 := x5) w.heap.size rfl (.tmp 42) (.tmp 44) 57 62 _ 16 rfl (by kernel_rfl) infoMv rfl (by decide) (by omega) (.slice Av ms.length cw) ms ⟨m0, m1⟩ [.int .i64 m0, .int .i64 m1] (fun _ => True) (fun _ => False) rfl rfl (kI2_mkM _ _ _ ⟨m0, m1⟩) (fun _ h => h.elim) (fun _ _ => trivial) HR.out (Below.refl _ _) HS.out.size (by have := HL.out; have := HK40.out; omega) ?_); intro v9 w9 hR9 hB9 hG9 hat9; obtain ⟨A9, c9, rfl⟩ := Kd.R_slice hR9; have HR9 := lH_ hR9; have HB9 := lH_ hB9; have HG9 := lH_ hG9; have BD9 : Hid (Blk w9 gD #[.int .i64 rg, .int .i64 av, .slice Av ms.length cw] 59) := lH_ ((hG9.block gD BgD.out.lt (Kd.R_ne HR.out BgD.out (by decide))).trans BgD.out); have BG9 := lH_ ((hG9.block gG BgG.out.lt (Kd.R_ne HR.out BgG.out (by decide))).trans BgG.out); have BZ9 := lH_ ((hG9.block gZ BgZ.out.lt (Kd.R_ne HR.out BgZ.out (by decide))).trans BgZ.out); have BX9 := lH_ ((hG9.block gd HD.out.box.lt (Kd.R_ne HR.out HD.out.box (by decide))).trans HD.out.box); have hx9 := BD9.out.cell 2; have hz9 := BD9.out.frozen 2; simp only [gA_, gZ_, gS_] at hx9; clear hR9 hB9 hG9 hat9 q2 b0 b1)
    have HR10 := HR9.out
    rw [List.length_append, List.length_singleton] at HR10
    have NDG := lH_ (show gG ≠ gD by have h1 := HGG.out; omega)
    have NDZ := lH_ (show gZ ≠ gD by have h1 := HZD.out; omega)
    exact ⟨⟨k + 1, ms ++ [⟨m0, m1⟩], .slice A9 (ms.length + 1) c9, by go_num, by have := HKL.out; omega, lH_ (by rw [List.length_append, HL.out]; rfl), lH_ (fun x hx => by rcases List.mem_append.1 hx with h | h; exact HOKM.out x h; rw [List.mem_singleton.1 h]; exact ⟨HB34.out.1.1, HB34.out.1.2, HB34.out.2.1, HB34.out.2.2⟩), lH_ (fun h9 _ => absurd (show k = n - 1 by omega) HK1.out), lH_ (Blk.far BG9.out NDG.out 2 _), lH_ (Blk.far BZ9.out NDZ.out 2 _), lH_ (BD9.out.put 2 _ rfl), lH_ (Kd.R_set HR10 BD9.out (by decide) 2 _), lH_ ((HS.out.trans ((Sc.of HB9.out (Nat.le_refl _) (Nat.le_of_lt HGD.out)))).trans (Sc.setN _ HGDl.out (Nat.le_trans (Nat.le_of_lt HGD.out) HGDl.out) 2 _)), lH_ ⟨_, Blk.far BX9.out (Ne.symm NDl.out) 2 _, HD.out.row, HD.out.at_, HD.out.far, bset (HD.out.below.trans (HB9.out.mono HW0.out)) (Nat.le_trans HW0.out HGDl.out) 2 _⟩⟩, by have := HKL.out; simp [intOf]; omega⟩
  ·have d1 : decide (k < n) = false := decide_eq_false hlt
   have d2 : decide ((k : Int) < (n : Int)) = false := decide_eq_false (by omega)
   obtain rfl : k = n := by omega
   clear hlt
   have z0 := BgZ.out.cell 0
   have z1 := BgZ.out.cell 1
   have z2 := BgZ.out.cell 2
   simp only [gA_, gZ_, gS_] at z0 z1 z2
   have y0 := BgD.out.cell 0
   have y1 := BgD.out.cell 1
   have y2 := BgD.out.cell 2
   simp only [gA_, gZ_, gS_] at y0 y1 y2
   have f0 := BgZ.out.frozen 0
   have f1 := BgZ.out.frozen 1
   have f2 := BgZ.out.frozen 2
   obtain ⟨Av, cw, rfl⟩ := Kd.R_slice HR.out
   go_wp2_with fail
   have HPT := HN.out
   refine bodyPost_ret (res_c (g := gZ) rfl _ _ _ _ _ rfl (((BgZ.out.put 0 _ rfl).put 1 _ rfl).put 2 _ rfl) rfl Try.underlying59 (by kernel_rfl)) rfl ⟨av, ms, _, rfl, HA1.out, ⟨by rw [HN.out]; exact HL.out, HOKM.out, (fun hz => by rw [HN.out]; exact HLAST.out rfl hz)⟩, Kd.R_set (Kd.R_set (Kd.R_set HR.out BgZ.out (by decide) 0 _) (BgZ.out.set 0 _) (by decide) 1 _) ((BgZ.out.set 0 _).set 1 _) (by decide) 2 _, ((HS.out.trans (Sc.setN _ HGZ.out (Nat.le_trans (Nat.le_of_lt HGD.out) HGZ.out) 0 _)).trans (Sc.setN _ HGZ.out (Nat.le_trans (Nat.le_of_lt HGD.out) HGZ.out) 1 _)).trans (Sc.setN _ HGZ.out (Nat.le_trans (Nat.le_of_lt HGD.out) HGZ.out) 2 _), ⟨_, ((HD.out.box.far (Ne.symm NZ.out) 0 _).far (Ne.symm NZ.out) 1 _).far (Ne.symm NZ.out) 2 _, HD.out.row, HD.out.at_, HD.out.far, bset (bset (bset HD.out.below (Nat.le_trans HW0.out HGZ.out) 0 _) (Nat.le_trans HW0.out HGZ.out) 1 _) (Nat.le_trans HW0.out HGZ.out) 2 _⟩⟩

end Go.Proofs.Ythpccdhmppbkfaa