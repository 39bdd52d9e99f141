/- OCm, ONu, OSp, OSz, Read, ORead: merged by wip/prune.py. -/
import Derived.ProofKit
import Derived.OpenShut
import Derived.Lib.SmallJoins
import Derived.Deep.Slices
import Derived.ChangeSame
import Derived.Test.YthpccdhmppbkfaaOa2
import Derived.Test.YthpccdhmppbkfaaOa4
import Derived.Test.YthpccdhmppbkfaaOa6
import Derived.Test.YthpccdhmppbkfaaOa7
import Derived.Test.YthpccdhmppbkfaaOa8
/- the law's Case.made. -/
set_option linter.unusedVariables false
set_option linter.unusedSimpArgs false
namespace Go.Proofs.Ythpccdhmppbkfaa
open Go.RowKit Go.Shelf Go.Proofs.YthpccdhmppbkfaaW.PrintWords Go.Proofs.YthpccdhmppbkfaaW.PrintLast Go.Proofs.YthpccdhmppbkfaaW.PrintMore
theorem res_ctt {fn : Func} {p u v : Tmp} {ty : TypeId} (h : fn.results = #[.cell p ty, .tmp u, .tmp v]) (tmps : Array Value) (w : World) (g : Nat) (t : TypeId) (cs : Array Value) (d : TypeDesc)
  (hp : tmps.getD p undef = .pointer (some ⟨g, 0, none⟩)) (hg : Blk w g cs t)
  (hd : (match d with | .struct _ | .array _ _ => true | _ => false) = true) (hu : Try.prog.underlying ty = some d) (hi : (Try.prog.info? ty).map (·.size) = some cs.size) :
  (results fn tmps).run Try.prog w = .ok (.tuple #[.agg cs, tmps.getD u undef, tmps.getD v undef]) w := by
 have hp' : tmps[p]?.getD undef = .pointer (some ⟨g, 0, none⟩) := by simpa using hp
 simp [results, h, hp', asAddr, run_loadVar_row w g t ty cs (0, 0) d hg hu (by cases d <;> first | rfl | (simp at hd)) hi]
/-- what a case makes -/
structure CaseP (w : World) (g : Gl) (h : Hd) (rs : List (List I3)) (Ar : Option Addr) (cr : Nat) (ns : List Int) (Ba : Option Addr) (ca : Nat) (w' : World) : Prop where
 gl : GlR w' g h
 md : MdOk rs.length g
 rl : rs.length ≤ 3
 rg : ∀ x ∈ rs, regB x ns.length = true
 n1 : 1 ≤ ns.length
 n3 : ns.length ≤ 3
 nb : ∀ x ∈ ns, -64 ≤ x ∧ x ≤ 64
 rr : Kd.C kRg w' Ar rs.length rs
 rc : rs.length ≤ cr
 nn : Kd.C kI w' Ba ns.length ns
 nc : ns.length ≤ ca
 below : Below w.heap.size w w'
def oCm1.T1 : Bool × List (List Nat × List Nat) := (true, [([], []), ([0], [0]), ([1], [1]), ([2], [2]), ([3], [3]), ([], []), ([5], [5]), ([6], [6]), ([7], [7]), ([4, 0, 1, 2, 3, 4], [4]), ([8, 9, 0, 1, 2, 3, 4, 5, 6, 7, 8, 9], [8])])
def oCm1.B1 : List Nat := [0, 1, 3, 7, 15, 0, 32, 96, 224, 31, 1023]
theorem oCm1.tab1 : rtab .any (opsOf Try.f9 1) = oCm1.T1 := by kernel_rfl
theorem oCm1.bits1 : waitsOk oCm1.T1.2 oCm1.B1 = true := by kernel_rfl
def oCm2.T2 : Bool × List (List Nat × List Nat) := (true, [([], []), ([0], [0]), ([], []), ([1, 2], [1, 2]), ([], []), ([4], [4]), ([], []), ([], []), ([5, 6, 7, 3], [5, 6, 7]), ([], []), ([9], [9]), ([], []), ([10, 11, 8], [10, 11]), ([3, 12, 0, 1, 2, 3], [3]), ([8, 13, 0, 1, 2, 3, 4, 5, 6, 7, 8, 13], [8]), ([12, 14, 0, 1, 2, 3, 4, 5, 6, 7, 8, 9, 10, 11, 12, 13, 14], [12])])
def oCm2.B2 : List Nat := [0, 1, 0, 7, 0, 16, 0, 0, 255, 0, 512, 0, 4095, 8191, 16383, 32767]
theorem oCm2.tab2 : rtab .any (opsOf Try.f9 2) = oCm2.T2 := by kernel_rfl
theorem oCm2.bits2 : waitsOk oCm2.T2.2 oCm2.B2 = true := by kernel_rfl
set_option maxRecDepth 100000 in
set_option maxHeartbeats 16000000 in
theorem case_any (l1 l2 l3 : List Int) (A1 A2 A3 : Option Addr) (c1 c2 c3 : Nat) (o0 o1 o2 x y : Int) (w : World) (hx : 0 ≤ x ∧ x ≤ 255) (hy : 0 ≤ y ∧ y ≤ 255) (h1 : Kd.C kI w A1 l1.length l1) (h2 : Kd.C kI w A2 l2.length l2) (h3 : Kd.C kI w A3 l3.length l3) (h4 : l2.length ≤ c2) :
  Calls Try.prog 9 #[.agg #[.slice A1 l1.length c1, .slice A2 l2.length c2, .slice A3 l3.length c3, .int .i64 o0, .int .i64 o1, .int .i64 o2, .int .u8 x, .int .u8 y]] w fun e w' => ∃ (g : Gl) (h : Hd) (rs : List (List I3)) (Ar : Option Addr) (cr : Nat) (ns : List Int) (Ba : Option Addr) (ca : Nat), e = .returned (.tuple #[.agg (gv g h), .slice Ar rs.length cr, .slice Ba ns.length ca]) ∧ CaseP w g h rs Ar cr ns Ba ca w' := by
 have HC1 := Lib.hid h1
 have HC2 := Lib.hid h2
 have HC3 := Lib.hid h3
 have HCP := Lib.hid h4
 clear h1 h2 h3 h4
 go_enter Try.func9, Try.ntmps9
 go_upto_region 1 with fail
 obtain ⟨w1, g1, hw0_, hg0_, Xg1_, Yg1_, _⟩ := new_box w #[.slice A1 l1.length c1, .slice A2 l2.length c2, .slice A3 l3.length c3, .int .i64 o0, .int .i64 o1, .int .i64 o2, .int .u8 x, .int .u8 y] 33
 obtain ⟨w2, g2, hw1_, hg1_, Xg2_, Yg2_, _⟩ := new_box w1 #[.slice none 0 0, .slice none 0 0, .int .i64 0, .int .i64 0, .int .i64 0, .int .i64 0, .slice none 0 0, .slice none 0 0] 29
 have s1_ : w.heap.size + 1 = g2 := by rw [← hg1_, ← hw0_]; simp
 rw [hw0_, hw1_, s1_, hg0_]
 have Eg1 := Lib.hid (show g1 = w.heap.size + 0 by omega)
 have Eg2 := Lib.hid (show g2 = w.heap.size + 1 by omega)
 clear hw0_ hg0_ hw1_ hg1_ s1_
 have HXw2 := Lib.hid (bthen' (Yg1_.out) Yg2_.out)
 have Bg1 := Lib.hid ((Xg1_.out).below Yg2_.out)
 have Bg2 := Lib.hid (Xg2_.out)
 clear Xg1_ Yg1_ Xg2_ Yg2_
 have HX := HXw2
 have B1_ := Bg1
 have B2_ := Bg2
 have N12 := Lib.hid (show g1 ≠ g2 by have := Eg1.out; have := Eg2.out; omega)
 have LG2 := Lib.hid (show w.heap.size ≤ g2 by have := Eg2.out; omega)
 clear Bg1 Bg2 HXw2
 go_upto_region 1 with fail
 obtain ⟨x3, hx3⟩ : ∃ q, x.tmod 3 = q := ⟨_, rfl⟩
 have hq3 : x.tmod 3 = x % 3 := Int.tmod_eq_emod_of_nonneg (by omega)
 have hq4 : y.tmod 4 = y % 4 := Int.tmod_eq_emod_of_nonneg (by omega)
 have hx3b : 0 ≤ x3 ∧ x3 ≤ 2 := by omega
 obtain ⟨n, hn⟩ : ∃ n : Nat, x3 + 1 = (n : Int) := ⟨(x3 + 1).toNat, by omega⟩
 obtain ⟨m, hm⟩ : ∃ m : Nat, y.tmod 4 = (m : Int) := ⟨(y.tmod 4).toNat, by omega⟩
 have HN3 := Lib.hid (show n ≤ 3 by omega)
 have HN1 := Lib.hid (show 1 ≤ n by omega)
 have HM3 := Lib.hid (show m ≤ 3 by omega)
 have HX1 := Lib.hid (IntWalk.i64_in x (by omega) : IntKind.i64.wrap x = x)
 have HY1 := Lib.hid (IntWalk.i64_in y (by omega) : IntKind.i64.wrap y = y)
 have HX2 := Lib.hid hx3
 have HX3 := Lib.hid (IntWalk.i64_in x3 (by omega) : IntKind.i64.wrap x3 = x3)
 have HX4 := Lib.hid (show IntKind.i64.wrap (x3 + 1) = (n : Int) by rw [IntWalk.i64_in (x3 + 1) (by omega)]; exact hn)
 have HY2 := Lib.hid hm
 have HY3 := Lib.hid (IntWalk.i64_in (m : Int) (by omega) : IntKind.i64.wrap (m : Int) = (m : Int))
 clear hx3 hq3 hq4 hx3b hn hm hx hy
 refine start_ (n := 11) (S := fun w' => True) (ds := []) #[false, false, false, false, false, false, false, false, false, false, false] (by kernel_rfl) rfl rfl trivial (fun hHeld => ?_)
 refine with_tabW oCm1.tab1 oCm1.bits1 (fun HT_ HW_ => ?_)
 have HB : Aside0 (Below w.heap.size w w2.drew) := ⟨bdrew HX.out⟩
 have B1 : Aside0 (Blk w2.drew g1 #[.slice A1 l1.length c1, .slice A2 l2.length c2, .slice A3 l3.length c3, .int .i64 o0, .int .i64 o1, .int .i64 o2, .int .u8 x, .int .u8 y] 33) := ⟨B1_.out.drew⟩
 have B2 : Aside0 (Blk w2.drew g2 #[.slice none 0 0, .slice none 0 0, .int .i64 0, .int .i64 0, .int .i64 0, .int .i64 0, .slice none 0 0, .slice none 0 0] 29) := ⟨B2_.out.drew⟩
 generalize hwd : w2.drew = w1' at *
 clear hwd
 refine inv_at [0, 1, 2, 3, 4, 5, 6, 7, 8, 9, 10] (fun a0_ b a w' => a = putSel a0_ b [(0, 7, .pointer (some ⟨g1, 6, none⟩)), (1, 8, .int .u8 x), (2, 9, .int .i64 x), (3, 10, .int .i64 x3), (4, 11, .int .i64 (n : Int)), (5, 12, .pointer (some ⟨g1, 7, none⟩)), (6, 13, .int .u8 y), (7, 14, .int .i64 y), (8, 15, .int .i64 (m : Int)), (9, 5, .int .i64 (n : Int)), (10, 6, .int .i64 (m : Int))] ∧ (Below w.heap.size w w') ∧ (Blk w' g1 #[.slice A1 l1.length c1, .slice A2 l2.length c2, .slice A3 l3.length c3, .int .i64 o0, .int .i64 o1, .int .i64 o2, .int .u8 x, .int .u8 y] 33) ∧ (Blk w' g2 #[.slice none 0 0, .slice none 0 0, .int .i64 0, .int .i64 0, .int .i64 0, .int .i64 0, .slice none 0 0, .slice none 0 0] 29)) HT_.out HW_.out (by kernel_rfl) (by kernel_rfl) ?_ ?_ ?_
 ·exact ⟨by simp only [putSel, Bool.false_eq_true, if_false], HB.out, B1.out, B2.out⟩
 ·skip
  clear B1 B2 HB
  refine steps_cons ?_ ?_
  ·rintro b a w' ⟨ha, Q_HB, Q_B1, Q_B2⟩ hb_ hon hoff
   refine ⟨_, rfl, fun K hK => ?_⟩
   have e1 : a.tmps[1]? = some (.pointer (some ⟨g1, 0, none⟩)) := by rw [ha]; exact (putSel_off rfl).trans rfl
   replace ha := Aside0.mk ha
   have HB := Aside0.mk Q_HB
   have B1 := Aside0.mk Q_B1
   have B2 := Aside0.mk Q_B2
   refine value_ (w1 := w') (v := .pointer (some ⟨g1, 6, none⟩)) (by rfl) rfl ?_ ?_
   ·go_simp
    (try simp only [i64_w])
    try rfl
    try assumption
   refine hK.out _ _ ⟨(by rw [ha.out]; exact putSel_upk 0 hb_ rfl rfl rfl), Q_HB, Q_B1, Q_B2⟩
  refine steps_cons ?_ ?_
  ·rintro b a w' ⟨ha, Q_HB, Q_B1, Q_B2⟩ hb_ hon hoff
   refine ⟨_, rfl, fun K hK => ?_⟩
   have e7 : a.tmps[7]? = some (.pointer (some ⟨g1, 6, none⟩)) := by rw [ha]; exact putSel_on (e := (0, 7, .pointer (some ⟨g1, 6, none⟩))) 0 rfl rfl (hon 0 (by kernel_rfl)) rfl
   replace ha := Aside0.mk ha
   have HB := Aside0.mk Q_HB
   have B1 := Aside0.mk Q_B1
   have B2 := Aside0.mk Q_B2
   have z := B1.out.cell 6
   refine value_ (w1 := w') (v := .int .u8 x) (by rfl) rfl ?_ ?_
   ·go_simp
    (try simp only [i64_w])
    try rfl
    try assumption
   refine hK.out _ _ ⟨(by rw [ha.out]; exact putSel_upk 1 hb_ rfl rfl rfl), Q_HB, Q_B1, Q_B2⟩
  refine steps_cons ?_ ?_
  ·rintro b a w' ⟨ha, Q_HB, Q_B1, Q_B2⟩ hb_ hon hoff
   refine ⟨_, rfl, fun K hK => ?_⟩
   have e8 : a.tmps[8]? = some (.int .u8 x) := by rw [ha]; exact putSel_on (e := (1, 8, .int .u8 x)) 1 rfl rfl (hon 1 (by kernel_rfl)) rfl
   replace ha := Aside0.mk ha
   have HB := Aside0.mk Q_HB
   have B1 := Aside0.mk Q_B1
   have B2 := Aside0.mk Q_B2
   have z := HX1.out
   refine value_ (w1 := w') (v := .int .i64 x) (by rfl) rfl ?_ ?_
   ·go_simp
    (try simp only [i64_w])
    try rfl
    try assumption
   refine hK.out _ _ ⟨(by rw [ha.out]; exact putSel_upk 2 hb_ rfl rfl rfl), Q_HB, Q_B1, Q_B2⟩
  refine steps_cons ?_ ?_
  ·rintro b a w' ⟨ha, Q_HB, Q_B1, Q_B2⟩ hb_ hon hoff
   refine ⟨_, rfl, fun K hK => ?_⟩
   have e9 : a.tmps[9]? = some (.int .i64 x) := by rw [ha]; exact putSel_on (e := (2, 9, .int .i64 x)) 2 rfl rfl (hon 2 (by kernel_rfl)) rfl
   replace ha := Aside0.mk ha
   have HB := Aside0.mk Q_HB
   have B1 := Aside0.mk Q_B1
   have B2 := Aside0.mk Q_B2
   have z := HX2.out
   have z2 := HX3.out
   refine value_ (w1 := w') (v := .int .i64 x3) (by rfl) rfl ?_ ?_
   ·go_simp
    (try simp only [i64_w])
    try rfl
    try assumption
   refine hK.out _ _ ⟨(by rw [ha.out]; exact putSel_upk 3 hb_ rfl rfl rfl), Q_HB, Q_B1, Q_B2⟩
  refine steps_cons ?_ ?_
  ·rintro b a w' ⟨ha, Q_HB, Q_B1, Q_B2⟩ hb_ hon hoff
   refine ⟨_, rfl, fun K hK => ?_⟩
   have e10 : a.tmps[10]? = some (.int .i64 x3) := by rw [ha]; exact putSel_on (e := (3, 10, .int .i64 x3)) 3 rfl rfl (hon 3 (by kernel_rfl)) rfl
   replace ha := Aside0.mk ha
   have HB := Aside0.mk Q_HB
   have B1 := Aside0.mk Q_B1
   have B2 := Aside0.mk Q_B2
   have z := HX4.out
   refine value_ (w1 := w') (v := .int .i64 (n : Int)) (by rfl) rfl ?_ ?_
   ·go_simp
    (try simp only [i64_w])
    try rfl
    try assumption
   refine hK.out _ _ ⟨(by rw [ha.out]; exact putSel_upk 4 hb_ rfl rfl rfl), Q_HB, Q_B1, Q_B2⟩
  refine steps_cons ?_ ?_
  ·rintro b a w' ⟨ha, Q_HB, Q_B1, Q_B2⟩ hb_ hon hoff
   refine ⟨_, rfl, fun K hK => ?_⟩
   have e1 : a.tmps[1]? = some (.pointer (some ⟨g1, 0, none⟩)) := by rw [ha]; exact (putSel_off rfl).trans rfl
   replace ha := Aside0.mk ha
   have HB := Aside0.mk Q_HB
   have B1 := Aside0.mk Q_B1
   have B2 := Aside0.mk Q_B2
   refine value_ (w1 := w') (v := .pointer (some ⟨g1, 7, none⟩)) (by rfl) rfl ?_ ?_
   ·go_simp
    (try simp only [i64_w])
    try rfl
    try assumption
   refine hK.out _ _ ⟨(by rw [ha.out]; exact putSel_upk 5 hb_ rfl rfl rfl), Q_HB, Q_B1, Q_B2⟩
  refine steps_cons ?_ ?_
  ·rintro b a w' ⟨ha, Q_HB, Q_B1, Q_B2⟩ hb_ hon hoff
   refine ⟨_, rfl, fun K hK => ?_⟩
   have e12 : a.tmps[12]? = some (.pointer (some ⟨g1, 7, none⟩)) := by rw [ha]; exact putSel_on (e := (5, 12, .pointer (some ⟨g1, 7, none⟩))) 5 rfl rfl (hon 5 (by kernel_rfl)) rfl
   replace ha := Aside0.mk ha
   have HB := Aside0.mk Q_HB
   have B1 := Aside0.mk Q_B1
   have B2 := Aside0.mk Q_B2
   have z := B1.out.cell 7
   refine value_ (w1 := w') (v := .int .u8 y) (by rfl) rfl ?_ ?_
   ·go_simp
    (try simp only [i64_w])
    try rfl
    try assumption
   refine hK.out _ _ ⟨(by rw [ha.out]; exact putSel_upk 6 hb_ rfl rfl rfl), Q_HB, Q_B1, Q_B2⟩
  refine steps_cons ?_ ?_
  ·rintro b a w' ⟨ha, Q_HB, Q_B1, Q_B2⟩ hb_ hon hoff
   refine ⟨_, rfl, fun K hK => ?_⟩
   have e13 : a.tmps[13]? = some (.int .u8 y) := by rw [ha]; exact putSel_on (e := (6, 13, .int .u8 y)) 6 rfl rfl (hon 6 (by kernel_rfl)) rfl
   replace ha := Aside0.mk ha
   have HB := Aside0.mk Q_HB
   have B1 := Aside0.mk Q_B1
   have B2 := Aside0.mk Q_B2
   have z := HY1.out
   refine value_ (w1 := w') (v := .int .i64 y) (by rfl) rfl ?_ ?_
   ·go_simp
    (try simp only [i64_w])
    try rfl
    try assumption
   refine hK.out _ _ ⟨(by rw [ha.out]; exact putSel_upk 7 hb_ rfl rfl rfl), Q_HB, Q_B1, Q_B2⟩
  refine steps_cons ?_ ?_
  ·rintro b a w' ⟨ha, Q_HB, Q_B1, Q_B2⟩ hb_ hon hoff
   refine ⟨_, rfl, fun K hK => ?_⟩
   have e14 : a.tmps[14]? = some (.int .i64 y) := by rw [ha]; exact putSel_on (e := (7, 14, .int .i64 y)) 7 rfl rfl (hon 7 (by kernel_rfl)) rfl
   replace ha := Aside0.mk ha
   have HB := Aside0.mk Q_HB
   have B1 := Aside0.mk Q_B1
   have B2 := Aside0.mk Q_B2
   have z := HY2.out
   have z2 := HY3.out
   refine value_ (w1 := w') (v := .int .i64 (m : Int)) (by rfl) rfl ?_ ?_
   ·go_simp
    (try simp only [i64_w])
    try rfl
    try assumption
   refine hK.out _ _ ⟨(by rw [ha.out]; exact putSel_upk 8 hb_ rfl rfl rfl), Q_HB, Q_B1, Q_B2⟩
  refine steps_cons ?_ ?_
  ·rintro b a w' ⟨ha, Q_HB, Q_B1, Q_B2⟩ hb_ hon hoff
   refine ⟨_, rfl, fun K hK => ?_⟩
   have e11 : a.tmps[11]? = some (.int .i64 (n : Int)) := by rw [ha]; exact putSel_on (e := (4, 11, .int .i64 (n : Int))) 4 rfl rfl (hon 4 (by kernel_rfl)) rfl
   replace ha := Aside0.mk ha
   have HB := Aside0.mk Q_HB
   have B1 := Aside0.mk Q_B1
   have B2 := Aside0.mk Q_B2
   refine value_ (w1 := w') (v := .int .i64 (n : Int)) (by rfl) rfl ?_ ?_
   ·go_simp
    (try simp only [i64_w])
    try rfl
    try assumption
   refine hK.out _ _ ⟨(by rw [ha.out]; exact putSel_upk 9 hb_ rfl rfl rfl), Q_HB, Q_B1, Q_B2⟩
  refine steps_cons ?_ ?_
  ·rintro b a w' ⟨ha, Q_HB, Q_B1, Q_B2⟩ hb_ hon hoff
   refine ⟨_, rfl, fun K hK => ?_⟩
   have e15 : a.tmps[15]? = some (.int .i64 (m : Int)) := by rw [ha]; exact putSel_on (e := (8, 15, .int .i64 (m : Int))) 8 rfl rfl (hon 8 (by kernel_rfl)) rfl
   replace ha := Aside0.mk ha
   have HB := Aside0.mk Q_HB
   have B1 := Aside0.mk Q_B1
   have B2 := Aside0.mk Q_B2
   refine value_ (w1 := w') (v := .int .i64 (m : Int)) (by rfl) rfl ?_ ?_
   ·go_simp
    (try simp only [i64_w])
    try rfl
    try assumption
   refine hK.out _ _ ⟨(by rw [ha.out]; exact putSel_upk 10 hb_ rfl rfl rfl), Q_HB, Q_B1, Q_B2⟩
  exact steps_nil
 ·rintro b a w' hall ⟨ha, Q_HB, Q_B1, Q_B2⟩
  clear B1 B2 HB
  have hb0_ := hall 0 (by kernel_rfl)
  have hb1_ := hall 1 (by kernel_rfl)
  have hb2_ := hall 2 (by kernel_rfl)
  have hb3_ := hall 3 (by kernel_rfl)
  have hb4_ := hall 4 (by kernel_rfl)
  have hb5_ := hall 5 (by kernel_rfl)
  have hb6_ := hall 6 (by kernel_rfl)
  have hb7_ := hall 7 (by kernel_rfl)
  have hb8_ := hall 8 (by kernel_rfl)
  have hb9_ := hall 9 (by kernel_rfl)
  have hb10_ := hall 10 (by kernel_rfl)
  subst ha
  simp only [putSel, hb0_, hb1_, hb2_, hb3_, hb4_, hb5_, hb6_, hb7_, hb8_, hb9_, hb10_, if_true, Act.put, List.setIfInBounds_toArray, List.set_cons_zero, List.set_cons_succ]
  have HB := Aside0.mk Q_HB
  clear Q_HB
  have B1 := Aside0.mk Q_B1
  clear Q_B1
  have B2 := Aside0.mk Q_B2
  clear Q_B2
  clear hall hb0_ hb1_ hb2_ hb3_ hb4_ hb5_ hb6_ hb7_ hb8_ hb9_ hb10_
  generalize w' = w3 at *
  have HX5 := Lib.hid HB.out
  replace B1_ := Lib.hid B1.out
  replace B2_ := Lib.hid B2.out
  clear HB B1 B2 HX
  go_upto_region 2 with fail
  refine start_ (n := 16) (S := fun w' => True) (ds := []) #[false, false, false, false, false, false, false, false, false, false, false, false, false, false, false, false] (by kernel_rfl) rfl rfl trivial (fun hHeld => ?_)
  refine with_tabW oCm2.tab2 oCm2.bits2 (fun HT_ HW_ => ?_)
  have HB : Aside0 (Below w.heap.size w w3.drew) := ⟨bdrew HX5.out⟩
  have B1 : Aside0 (Blk w3.drew g1 #[.slice A1 l1.length c1, .slice A2 l2.length c2, .slice A3 l3.length c3, .int .i64 o0, .int .i64 o1, .int .i64 o2, .int .u8 x, .int .u8 y] 33) := ⟨B1_.out.drew⟩
  have B2 : Aside0 (Blk w3.drew g2 #[.slice none 0 0, .slice none 0 0, .int .i64 0, .int .i64 0, .int .i64 0, .int .i64 0, .slice none 0 0, .slice none 0 0] 29) := ⟨B2_.out.drew⟩
  generalize hwd : w3.drew = w1' at *
  clear hwd
  refine inv_at [0, 1, 2, 3, 4, 5, 6, 7, 8, 9, 10, 11, 12, 13, 14, 15] (fun a0_ b a w' => ∃ (g : Gl) (h : Hd) (rs : List (List I3)) (Ar : Option Addr) (cr : Nat) (ns : List Int) (Ba : Option Addr) (ca : Nat) (m3_ : Value) (m8_ : Value) (m12_ : Value) (m14_ : Value) (m15_ : Value), a = putSel a0_ b [(0, 16, .pointer (some ⟨g1, 0, none⟩)), (1, 17, .slice A1 l1.length c1), (2, 18, .int .i64 (m : Int)), (3, 19, m3_), (4, 20, .pointer (some ⟨g1, 1, none⟩)), (5, 21, .slice A2 l2.length c2), (6, 22, .int .i64 (n : Int)), (7, 23, .int .i64 (m : Int)), (8, 24, m8_), (9, 25, .pointer (some ⟨g1, 2, none⟩)), (10, 26, .slice A3 l3.length c3), (11, 27, .int .i64 (n : Int)), (12, 28, m12_), (14, 3, m14_), (15, 4, m15_)] ∧ (Below w.heap.size w w') ∧ (Blk w' g1 #[.slice A1 l1.length c1, .slice A2 l2.length c2, .slice A3 l3.length c3, .int .i64 o0, .int .i64 o1, .int .i64 o2, .int .u8 x, .int .u8 y] 33) ∧ (b 13 = false → Blk w' g2 #[.slice none 0 0, .slice none 0 0, .int .i64 0, .int .i64 0, .int .i64 0, .int .i64 0, .slice none 0 0, .slice none 0 0] 29) ∧ (b 3 = true → GlO w' w.heap.size g h) ∧ (b 3 = true → MdOk m g) ∧ (b 8 = true → Kd.R kRg 46 w' w.heap.size (fun _ => True) (.slice Ar rs.length cr) rs) ∧ (b 8 = true → rs.length = m ∧ (∀ x ∈ rs, regB x n = true)) ∧ (b 12 = true → Kd.R kI 3 w' w.heap.size (fun _ => True) (.slice Ba ns.length ca) ns) ∧ (b 12 = true → ns.length = n ∧ (∀ x ∈ ns, -64 ≤ x ∧ x ≤ 64) ∧ ns.length ≤ ca) ∧ (b 13 = true → Blk w' g2 #[.slice h.a1 g.ct.length h.c1, .slice h.a2 g.an.length h.c2, .int .i64 g.hang.a, .int .i64 g.hang.b, .int .i64 g.hang.c, .int .i64 g.adv, .slice h.a3 g.dl.length h.c3, .slice h.a4 g.pr.length h.c4] 29) ∧ (b 3 = true → (m3_ : Value) = .agg #[.slice h.a1 g.ct.length h.c1, .slice h.a2 g.an.length h.c2, .int .i64 g.hang.a, .int .i64 g.hang.b, .int .i64 g.hang.c, .int .i64 g.adv, .slice h.a3 g.dl.length h.c3, .slice h.a4 g.pr.length h.c4]) ∧ (b 8 = true → (m8_ : Value) = .slice Ar rs.length cr) ∧ (b 12 = true → (m12_ : Value) = .slice Ba ns.length ca) ∧ (b 14 = true → (m14_ : Value) = .slice Ar rs.length cr) ∧ (b 15 = true → (m15_ : Value) = .slice Ba ns.length ca)) HT_.out HW_.out (by kernel_rfl) (by kernel_rfl) ?_ ?_ ?_
  ·exact ⟨⟨[], [], zI3, 0, [], []⟩, ⟨none, 0, none, 0, none, 0, none, 0⟩, [], none, 0, [], none, 0, .bool false, .bool false, .bool false, .bool false, .bool false, by simp only [putSel, Bool.false_eq_true, if_false], HB.out, B1.out, fun _ => B2.out, fun h_ => absurd h_ (by decide), fun h_ => absurd h_ (by decide), fun h_ => absurd h_ (by decide), fun h_ => absurd h_ (by decide), fun h_ => absurd h_ (by decide), fun h_ => absurd h_ (by decide), fun h_ => absurd h_ (by decide), fun h_ => absurd h_ (by decide), fun h_ => absurd h_ (by decide), fun h_ => absurd h_ (by decide), fun h_ => absurd h_ (by decide), fun h_ => absurd h_ (by decide)⟩
  ·skip
   clear B1 B2 HB
   refine steps_cons ?_ ?_
   ·rintro b a w' ⟨g, h, rs, Ar, cr, ns, Ba, ca, m3_, m8_, m12_, m14_, m15_, ha, Q_HB, Q_B1, Q_B2, Q_GO, Q_GM, Q_RR, Q_RP, Q_RN, Q_NP, Q_B3, Q_X3_, Q_X8_, Q_X12_, Q_X14_, Q_X15_⟩ hb_ hon hoff
    refine ⟨_, rfl, fun K hK => ?_⟩
    have e1 : a.tmps[1]? = some (.pointer (some ⟨g1, 0, none⟩)) := by rw [ha]; exact (putSel_off rfl).trans rfl
    replace ha := Aside0.mk ha
    have HB := Aside0.mk Q_HB
    have B1 := Aside0.mk Q_B1
    have B2 := Aside0.mk (Q_B2 (hoff 13 (by kernel_rfl)))
    refine value_ (w1 := w') (v := .pointer (some ⟨g1, 0, none⟩)) (by rfl) rfl ?_ ?_
    ·go_simp
     (try simp only [i64_w])
     try rfl
     try assumption
    refine hK.out _ _ ⟨g, h, rs, Ar, cr, ns, Ba, ca, m3_, m8_, m12_, m14_, m15_, (by rw [ha.out]; exact putSel_upk 0 hb_ rfl rfl rfl), Q_HB, Q_B1, Q_B2, fun h0_ => absurd ((hoff 3 (by kernel_rfl)).symm.trans h0_) (by decide), fun h0_ => absurd ((hoff 3 (by kernel_rfl)).symm.trans h0_) (by decide), fun h0_ => absurd ((hoff 8 (by kernel_rfl)).symm.trans h0_) (by decide), fun h0_ => absurd ((hoff 8 (by kernel_rfl)).symm.trans h0_) (by decide), fun h0_ => absurd ((hoff 12 (by kernel_rfl)).symm.trans h0_) (by decide), fun h0_ => absurd ((hoff 12 (by kernel_rfl)).symm.trans h0_) (by decide), fun h0_ => absurd ((hoff 13 (by kernel_rfl)).symm.trans h0_) (by decide), fun h0_ => absurd ((hoff 3 (by kernel_rfl)).symm.trans h0_) (by decide), fun h0_ => absurd ((hoff 8 (by kernel_rfl)).symm.trans h0_) (by decide), fun h0_ => absurd ((hoff 12 (by kernel_rfl)).symm.trans h0_) (by decide), fun h0_ => absurd ((hoff 14 (by kernel_rfl)).symm.trans h0_) (by decide), fun h0_ => absurd ((hoff 15 (by kernel_rfl)).symm.trans h0_) (by decide)⟩
   refine steps_cons ?_ ?_
   ·rintro b a w' ⟨g, h, rs, Ar, cr, ns, Ba, ca, m3_, m8_, m12_, m14_, m15_, ha, Q_HB, Q_B1, Q_B2, Q_GO, Q_GM, Q_RR, Q_RP, Q_RN, Q_NP, Q_B3, Q_X3_, Q_X8_, Q_X12_, Q_X14_, Q_X15_⟩ hb_ hon hoff
    refine ⟨_, rfl, fun K hK => ?_⟩
    have e16 : a.tmps[16]? = some (.pointer (some ⟨g1, 0, none⟩)) := by rw [ha]; exact putSel_on (e := (0, 16, .pointer (some ⟨g1, 0, none⟩))) 0 rfl rfl (hon 0 (by kernel_rfl)) rfl
    replace ha := Aside0.mk ha
    have HB := Aside0.mk Q_HB
    have B1 := Aside0.mk Q_B1
    have B2 := Aside0.mk (Q_B2 (hoff 13 (by kernel_rfl)))
    have z := B1.out.cell 0
    refine value_ (w1 := w') (v := .slice A1 l1.length c1) (by rfl) rfl ?_ ?_
    ·go_simp
     (try simp only [i64_w])
     try rfl
     try assumption
    refine hK.out _ _ ⟨g, h, rs, Ar, cr, ns, Ba, ca, m3_, m8_, m12_, m14_, m15_, (by rw [ha.out]; exact putSel_upk 1 hb_ rfl rfl rfl), Q_HB, Q_B1, Q_B2, fun h0_ => absurd ((hoff 3 (by kernel_rfl)).symm.trans h0_) (by decide), fun h0_ => absurd ((hoff 3 (by kernel_rfl)).symm.trans h0_) (by decide), fun h0_ => absurd ((hoff 8 (by kernel_rfl)).symm.trans h0_) (by decide), fun h0_ => absurd ((hoff 8 (by kernel_rfl)).symm.trans h0_) (by decide), fun h0_ => absurd ((hoff 12 (by kernel_rfl)).symm.trans h0_) (by decide), fun h0_ => absurd ((hoff 12 (by kernel_rfl)).symm.trans h0_) (by decide), fun h0_ => absurd ((hoff 13 (by kernel_rfl)).symm.trans h0_) (by decide), fun h0_ => absurd ((hoff 3 (by kernel_rfl)).symm.trans h0_) (by decide), fun h0_ => absurd ((hoff 8 (by kernel_rfl)).symm.trans h0_) (by decide), fun h0_ => absurd ((hoff 12 (by kernel_rfl)).symm.trans h0_) (by decide), fun h0_ => absurd ((hoff 14 (by kernel_rfl)).symm.trans h0_) (by decide), fun h0_ => absurd ((hoff 15 (by kernel_rfl)).symm.trans h0_) (by decide)⟩
   refine steps_cons ?_ ?_
   ·rintro b a w' ⟨g, h, rs, Ar, cr, ns, Ba, ca, m3_, m8_, m12_, m14_, m15_, ha, Q_HB, Q_B1, Q_B2, Q_GO, Q_GM, Q_RR, Q_RP, Q_RN, Q_NP, Q_B3, Q_X3_, Q_X8_, Q_X12_, Q_X14_, Q_X15_⟩ hb_ hon hoff
    refine ⟨_, rfl, fun K hK => ?_⟩
    have e6 : a.tmps[6]? = some (.int .i64 (m : Int)) := by rw [ha]; exact (putSel_off rfl).trans rfl
    replace ha := Aside0.mk ha
    have HB := Aside0.mk Q_HB
    have B1 := Aside0.mk Q_B1
    have B2 := Aside0.mk (Q_B2 (hoff 13 (by kernel_rfl)))
    refine value_ (w1 := w') (v := .int .i64 (m : Int)) (by rfl) rfl ?_ ?_
    ·go_simp
     (try simp only [i64_w])
     try rfl
     try assumption
    refine hK.out _ _ ⟨g, h, rs, Ar, cr, ns, Ba, ca, m3_, m8_, m12_, m14_, m15_, (by rw [ha.out]; exact putSel_upk 2 hb_ rfl rfl rfl), Q_HB, Q_B1, Q_B2, fun h0_ => absurd ((hoff 3 (by kernel_rfl)).symm.trans h0_) (by decide), fun h0_ => absurd ((hoff 3 (by kernel_rfl)).symm.trans h0_) (by decide), fun h0_ => absurd ((hoff 8 (by kernel_rfl)).symm.trans h0_) (by decide), fun h0_ => absurd ((hoff 8 (by kernel_rfl)).symm.trans h0_) (by decide), fun h0_ => absurd ((hoff 12 (by kernel_rfl)).symm.trans h0_) (by decide), fun h0_ => absurd ((hoff 12 (by kernel_rfl)).symm.trans h0_) (by decide), fun h0_ => absurd ((hoff 13 (by kernel_rfl)).symm.trans h0_) (by decide), fun h0_ => absurd ((hoff 3 (by kernel_rfl)).symm.trans h0_) (by decide), fun h0_ => absurd ((hoff 8 (by kernel_rfl)).symm.trans h0_) (by decide), fun h0_ => absurd ((hoff 12 (by kernel_rfl)).symm.trans h0_) (by decide), fun h0_ => absurd ((hoff 14 (by kernel_rfl)).symm.trans h0_) (by decide), fun h0_ => absurd ((hoff 15 (by kernel_rfl)).symm.trans h0_) (by decide)⟩
   refine steps_cons ?_ ?_
   ·rintro b a w' ⟨g, h, rs, Ar, cr, ns, Ba, ca, m3_, m8_, m12_, m14_, m15_, ha, Q_HB, Q_B1, Q_B2, Q_GO, Q_GM, Q_RR, Q_RP, Q_RN, Q_NP, Q_B3, Q_X3_, Q_X8_, Q_X12_, Q_X14_, Q_X15_⟩ hb_ hon hoff
    refine ⟨_, rfl, fun K hK => ?_⟩
    have e17 : a.tmps[17]? = some (.slice A1 l1.length c1) := by rw [ha]; exact putSel_on (e := (1, 17, .slice A1 l1.length c1)) 1 rfl rfl (hon 1 (by kernel_rfl)) rfl
    have e18 : a.tmps[18]? = some (.int .i64 (m : Int)) := by rw [ha]; exact putSel_on (e := (2, 18, .int .i64 (m : Int))) 2 rfl rfl (hon 2 (by kernel_rfl)) rfl
    replace ha := Aside0.mk ha
    have HB := Aside0.mk Q_HB
    have B1 := Aside0.mk Q_B1
    have B2 := Aside0.mk (Q_B2 (hoff 13 (by kernel_rfl)))
    refine call_ 24 #[.slice A1 l1.length c1, .int .i64 (m : Int)] (by rfl) rfl ?_ ?_
    ·go_simp
    refine (made_any l1 A1 c1 m w' HM3.out (Kd.C_below HC1.out HB.out)).mono ?_
    rintro e w2' ⟨g0, h0, rfl, go0, gm0, hb⟩
    refine ⟨_, rfl, ?_⟩
    refine hK.out _ _ ⟨g0, h0, rs, Ar, cr, ns, Ba, ca, (.agg #[.slice h0.a1 g0.ct.length h0.c1, .slice h0.a2 g0.an.length h0.c2, .int .i64 g0.hang.a, .int .i64 g0.hang.b, .int .i64 g0.hang.c, .int .i64 g0.adv, .slice h0.a3 g0.dl.length h0.c3, .slice h0.a4 g0.pr.length h0.c4]), m8_, m12_, m14_, m15_, (by rw [ha.out]; exact putSel_upk 3 hb_ rfl rfl rfl), bthen' HB.out hb, B1.out.below hb, fun _ => B2.out.below hb, fun _ => go0.lower HB.out.size, fun _ => gm0, fun h0_ => absurd ((hoff 8 (by kernel_rfl)).symm.trans h0_) (by decide), fun h0_ => absurd ((hoff 8 (by kernel_rfl)).symm.trans h0_) (by decide), fun h0_ => absurd ((hoff 12 (by kernel_rfl)).symm.trans h0_) (by decide), fun h0_ => absurd ((hoff 12 (by kernel_rfl)).symm.trans h0_) (by decide), fun h0_ => absurd ((hoff 13 (by kernel_rfl)).symm.trans h0_) (by decide), fun _ => rfl, fun h0_ => absurd ((hoff 8 (by kernel_rfl)).symm.trans h0_) (by decide), fun h0_ => absurd ((hoff 12 (by kernel_rfl)).symm.trans h0_) (by decide), fun h0_ => absurd ((hoff 14 (by kernel_rfl)).symm.trans h0_) (by decide), fun h0_ => absurd ((hoff 15 (by kernel_rfl)).symm.trans h0_) (by decide)⟩
   refine steps_cons ?_ ?_
   ·rintro b a w' ⟨g, h, rs, Ar, cr, ns, Ba, ca, m3_, m8_, m12_, m14_, m15_, ha, Q_HB, Q_B1, Q_B2, Q_GO, Q_GM, Q_RR, Q_RP, Q_RN, Q_NP, Q_B3, Q_X3_, Q_X8_, Q_X12_, Q_X14_, Q_X15_⟩ hb_ hon hoff
    refine ⟨_, rfl, fun K hK => ?_⟩
    have e1 : a.tmps[1]? = some (.pointer (some ⟨g1, 0, none⟩)) := by rw [ha]; exact (putSel_off rfl).trans rfl
    replace ha := Aside0.mk ha
    have HB := Aside0.mk Q_HB
    have B1 := Aside0.mk Q_B1
    have B2 := Aside0.mk (Q_B2 (hoff 13 (by kernel_rfl)))
    refine value_ (w1 := w') (v := .pointer (some ⟨g1, 1, none⟩)) (by rfl) rfl ?_ ?_
    ·go_simp
     (try simp only [i64_w])
     try rfl
     try assumption
    refine hK.out _ _ ⟨g, h, rs, Ar, cr, ns, Ba, ca, m3_, m8_, m12_, m14_, m15_, (by rw [ha.out]; exact putSel_upk 4 hb_ rfl rfl rfl), Q_HB, Q_B1, Q_B2, Q_GO, Q_GM, fun h0_ => absurd ((hoff 8 (by kernel_rfl)).symm.trans h0_) (by decide), fun h0_ => absurd ((hoff 8 (by kernel_rfl)).symm.trans h0_) (by decide), fun h0_ => absurd ((hoff 12 (by kernel_rfl)).symm.trans h0_) (by decide), fun h0_ => absurd ((hoff 12 (by kernel_rfl)).symm.trans h0_) (by decide), fun h0_ => absurd ((hoff 13 (by kernel_rfl)).symm.trans h0_) (by decide), Q_X3_, fun h0_ => absurd ((hoff 8 (by kernel_rfl)).symm.trans h0_) (by decide), fun h0_ => absurd ((hoff 12 (by kernel_rfl)).symm.trans h0_) (by decide), fun h0_ => absurd ((hoff 14 (by kernel_rfl)).symm.trans h0_) (by decide), fun h0_ => absurd ((hoff 15 (by kernel_rfl)).symm.trans h0_) (by decide)⟩
   refine steps_cons ?_ ?_
   ·rintro b a w' ⟨g, h, rs, Ar, cr, ns, Ba, ca, m3_, m8_, m12_, m14_, m15_, ha, Q_HB, Q_B1, Q_B2, Q_GO, Q_GM, Q_RR, Q_RP, Q_RN, Q_NP, Q_B3, Q_X3_, Q_X8_, Q_X12_, Q_X14_, Q_X15_⟩ hb_ hon hoff
    refine ⟨_, rfl, fun K hK => ?_⟩
    have e20 : a.tmps[20]? = some (.pointer (some ⟨g1, 1, none⟩)) := by rw [ha]; exact putSel_on (e := (4, 20, .pointer (some ⟨g1, 1, none⟩))) 4 rfl rfl (hon 4 (by kernel_rfl)) rfl
    replace ha := Aside0.mk ha
    have HB := Aside0.mk Q_HB
    have B1 := Aside0.mk Q_B1
    have B2 := Aside0.mk (Q_B2 (hoff 13 (by kernel_rfl)))
    have z := B1.out.cell 1
    refine value_ (w1 := w') (v := .slice A2 l2.length c2) (by rfl) rfl ?_ ?_
    ·go_simp
     (try simp only [i64_w])
     try rfl
     try assumption
    refine hK.out _ _ ⟨g, h, rs, Ar, cr, ns, Ba, ca, m3_, m8_, m12_, m14_, m15_, (by rw [ha.out]; exact putSel_upk 5 hb_ rfl rfl rfl), Q_HB, Q_B1, Q_B2, Q_GO, Q_GM, fun h0_ => absurd ((hoff 8 (by kernel_rfl)).symm.trans h0_) (by decide), fun h0_ => absurd ((hoff 8 (by kernel_rfl)).symm.trans h0_) (by decide), fun h0_ => absurd ((hoff 12 (by kernel_rfl)).symm.trans h0_) (by decide), fun h0_ => absurd ((hoff 12 (by kernel_rfl)).symm.trans h0_) (by decide), fun h0_ => absurd ((hoff 13 (by kernel_rfl)).symm.trans h0_) (by decide), Q_X3_, fun h0_ => absurd ((hoff 8 (by kernel_rfl)).symm.trans h0_) (by decide), fun h0_ => absurd ((hoff 12 (by kernel_rfl)).symm.trans h0_) (by decide), fun h0_ => absurd ((hoff 14 (by kernel_rfl)).symm.trans h0_) (by decide), fun h0_ => absurd ((hoff 15 (by kernel_rfl)).symm.trans h0_) (by decide)⟩
   refine steps_cons ?_ ?_
   ·rintro b a w' ⟨g, h, rs, Ar, cr, ns, Ba, ca, m3_, m8_, m12_, m14_, m15_, ha, Q_HB, Q_B1, Q_B2, Q_GO, Q_GM, Q_RR, Q_RP, Q_RN, Q_NP, Q_B3, Q_X3_, Q_X8_, Q_X12_, Q_X14_, Q_X15_⟩ hb_ hon hoff
    refine ⟨_, rfl, fun K hK => ?_⟩
    have e5 : a.tmps[5]? = some (.int .i64 (n : Int)) := by rw [ha]; exact (putSel_off rfl).trans rfl
    replace ha := Aside0.mk ha
    have HB := Aside0.mk Q_HB
    have B1 := Aside0.mk Q_B1
    have B2 := Aside0.mk (Q_B2 (hoff 13 (by kernel_rfl)))
    refine value_ (w1 := w') (v := .int .i64 (n : Int)) (by rfl) rfl ?_ ?_
    ·go_simp
     (try simp only [i64_w])
     try rfl
     try assumption
    refine hK.out _ _ ⟨g, h, rs, Ar, cr, ns, Ba, ca, m3_, m8_, m12_, m14_, m15_, (by rw [ha.out]; exact putSel_upk 6 hb_ rfl rfl rfl), Q_HB, Q_B1, Q_B2, Q_GO, Q_GM, fun h0_ => absurd ((hoff 8 (by kernel_rfl)).symm.trans h0_) (by decide), fun h0_ => absurd ((hoff 8 (by kernel_rfl)).symm.trans h0_) (by decide), fun h0_ => absurd ((hoff 12 (by kernel_rfl)).symm.trans h0_) (by decide), fun h0_ => absurd ((hoff 12 (by kernel_rfl)).symm.trans h0_) (by decide), fun h0_ => absurd ((hoff 13 (by kernel_rfl)).symm.trans h0_) (by decide), Q_X3_, fun h0_ => absurd ((hoff 8 (by kernel_rfl)).symm.trans h0_) (by decide), fun h0_ => absurd ((hoff 12 (by kernel_rfl)).symm.trans h0_) (by decide), fun h0_ => absurd ((hoff 14 (by kernel_rfl)).symm.trans h0_) (by decide), fun h0_ => absurd ((hoff 15 (by kernel_rfl)).symm.trans h0_) (by decide)⟩
   refine steps_cons ?_ ?_
   ·rintro b a w' ⟨g, h, rs, Ar, cr, ns, Ba, ca, m3_, m8_, m12_, m14_, m15_, ha, Q_HB, Q_B1, Q_B2, Q_GO, Q_GM, Q_RR, Q_RP, Q_RN, Q_NP, Q_B3, Q_X3_, Q_X8_, Q_X12_, Q_X14_, Q_X15_⟩ hb_ hon hoff
    refine ⟨_, rfl, fun K hK => ?_⟩
    have e6 : a.tmps[6]? = some (.int .i64 (m : Int)) := by rw [ha]; exact (putSel_off rfl).trans rfl
    replace ha := Aside0.mk ha
    have HB := Aside0.mk Q_HB
    have B1 := Aside0.mk Q_B1
    have B2 := Aside0.mk (Q_B2 (hoff 13 (by kernel_rfl)))
    refine value_ (w1 := w') (v := .int .i64 (m : Int)) (by rfl) rfl ?_ ?_
    ·go_simp
     (try simp only [i64_w])
     try rfl
     try assumption
    refine hK.out _ _ ⟨g, h, rs, Ar, cr, ns, Ba, ca, m3_, m8_, m12_, m14_, m15_, (by rw [ha.out]; exact putSel_upk 7 hb_ rfl rfl rfl), Q_HB, Q_B1, Q_B2, Q_GO, Q_GM, fun h0_ => absurd ((hoff 8 (by kernel_rfl)).symm.trans h0_) (by decide), fun h0_ => absurd ((hoff 8 (by kernel_rfl)).symm.trans h0_) (by decide), fun h0_ => absurd ((hoff 12 (by kernel_rfl)).symm.trans h0_) (by decide), fun h0_ => absurd ((hoff 12 (by kernel_rfl)).symm.trans h0_) (by decide), fun h0_ => absurd ((hoff 13 (by kernel_rfl)).symm.trans h0_) (by decide), Q_X3_, fun h0_ => absurd ((hoff 8 (by kernel_rfl)).symm.trans h0_) (by decide), fun h0_ => absurd ((hoff 12 (by kernel_rfl)).symm.trans h0_) (by decide), fun h0_ => absurd ((hoff 14 (by kernel_rfl)).symm.trans h0_) (by decide), fun h0_ => absurd ((hoff 15 (by kernel_rfl)).symm.trans h0_) (by decide)⟩
   refine steps_cons ?_ ?_
   ·rintro b a w' ⟨g, h, rs, Ar, cr, ns, Ba, ca, m3_, m8_, m12_, m14_, m15_, ha, Q_HB, Q_B1, Q_B2, Q_GO, Q_GM, Q_RR, Q_RP, Q_RN, Q_NP, Q_B3, Q_X3_, Q_X8_, Q_X12_, Q_X14_, Q_X15_⟩ hb_ hon hoff
    refine ⟨_, rfl, fun K hK => ?_⟩
    have e21 : a.tmps[21]? = some (.slice A2 l2.length c2) := by rw [ha]; exact putSel_on (e := (5, 21, .slice A2 l2.length c2)) 5 rfl rfl (hon 5 (by kernel_rfl)) rfl
    have e22 : a.tmps[22]? = some (.int .i64 (n : Int)) := by rw [ha]; exact putSel_on (e := (6, 22, .int .i64 (n : Int))) 6 rfl rfl (hon 6 (by kernel_rfl)) rfl
    have e23 : a.tmps[23]? = some (.int .i64 (m : Int)) := by rw [ha]; exact putSel_on (e := (7, 23, .int .i64 (m : Int))) 7 rfl rfl (hon 7 (by kernel_rfl)) rfl
    replace ha := Aside0.mk ha
    have HB := Aside0.mk Q_HB
    have B1 := Aside0.mk Q_B1
    have B2 := Aside0.mk (Q_B2 (hoff 13 (by kernel_rfl)))
    have GO := Aside0.mk (Q_GO (hon 3 (by kernel_rfl)))
    have GM := Aside0.mk (Q_GM (hon 3 (by kernel_rfl)))
    refine call_ 25 #[.slice A2 l2.length c2, .int .i64 (n : Int), .int .i64 (m : Int)] (by rfl) rfl ?_ ?_
    ·go_simp
    refine (regions_any l2 A2 c2 n m w' HN3.out HM3.out (Kd.C_below HC2.out HB.out) HCP.out).mono ?_
    rintro e w2' ⟨rs0, v0, hrl, hrb, rfl, hrr, hb⟩
    obtain ⟨Ar0, cr0, rfl⟩ := Kd.R_slice hrr
    refine ⟨_, rfl, ?_⟩
    refine hK.out _ _ ⟨g, h, rs0, Ar0, cr0, ns, Ba, ca, m3_, (.slice Ar0 rs0.length cr0), m12_, m14_, m15_, (by rw [ha.out]; exact putSel_upk 8 hb_ rfl rfl rfl), bthen' HB.out hb, B1.out.below hb, fun _ => B2.out.below hb, fun _ => GO.out.below hb, Q_GM, fun _ => Kd.R_lower hrr HB.out.size, fun _ => ⟨hrl, hrb⟩, fun h0_ => absurd ((hoff 12 (by kernel_rfl)).symm.trans h0_) (by decide), fun h0_ => absurd ((hoff 12 (by kernel_rfl)).symm.trans h0_) (by decide), fun h0_ => absurd ((hoff 13 (by kernel_rfl)).symm.trans h0_) (by decide), Q_X3_, fun _ => rfl, fun h0_ => absurd ((hoff 12 (by kernel_rfl)).symm.trans h0_) (by decide), fun h0_ => absurd ((hoff 14 (by kernel_rfl)).symm.trans h0_) (by decide), fun h0_ => absurd ((hoff 15 (by kernel_rfl)).symm.trans h0_) (by decide)⟩
   refine steps_cons ?_ ?_
   ·rintro b a w' ⟨g, h, rs, Ar, cr, ns, Ba, ca, m3_, m8_, m12_, m14_, m15_, ha, Q_HB, Q_B1, Q_B2, Q_GO, Q_GM, Q_RR, Q_RP, Q_RN, Q_NP, Q_B3, Q_X3_, Q_X8_, Q_X12_, Q_X14_, Q_X15_⟩ hb_ hon hoff
    refine ⟨_, rfl, fun K hK => ?_⟩
    have e1 : a.tmps[1]? = some (.pointer (some ⟨g1, 0, none⟩)) := by rw [ha]; exact (putSel_off rfl).trans rfl
    replace ha := Aside0.mk ha
    have HB := Aside0.mk Q_HB
    have B1 := Aside0.mk Q_B1
    have B2 := Aside0.mk (Q_B2 (hoff 13 (by kernel_rfl)))
    refine value_ (w1 := w') (v := .pointer (some ⟨g1, 2, none⟩)) (by rfl) rfl ?_ ?_
    ·go_simp
     (try simp only [i64_w])
     try rfl
     try assumption
    refine hK.out _ _ ⟨g, h, rs, Ar, cr, ns, Ba, ca, m3_, m8_, m12_, m14_, m15_, (by rw [ha.out]; exact putSel_upk 9 hb_ rfl rfl rfl), Q_HB, Q_B1, Q_B2, Q_GO, Q_GM, Q_RR, Q_RP, fun h0_ => absurd ((hoff 12 (by kernel_rfl)).symm.trans h0_) (by decide), fun h0_ => absurd ((hoff 12 (by kernel_rfl)).symm.trans h0_) (by decide), fun h0_ => absurd ((hoff 13 (by kernel_rfl)).symm.trans h0_) (by decide), Q_X3_, Q_X8_, fun h0_ => absurd ((hoff 12 (by kernel_rfl)).symm.trans h0_) (by decide), fun h0_ => absurd ((hoff 14 (by kernel_rfl)).symm.trans h0_) (by decide), fun h0_ => absurd ((hoff 15 (by kernel_rfl)).symm.trans h0_) (by decide)⟩
   refine steps_cons ?_ ?_
   ·rintro b a w' ⟨g, h, rs, Ar, cr, ns, Ba, ca, m3_, m8_, m12_, m14_, m15_, ha, Q_HB, Q_B1, Q_B2, Q_GO, Q_GM, Q_RR, Q_RP, Q_RN, Q_NP, Q_B3, Q_X3_, Q_X8_, Q_X12_, Q_X14_, Q_X15_⟩ hb_ hon hoff
    refine ⟨_, rfl, fun K hK => ?_⟩
    have e25 : a.tmps[25]? = some (.pointer (some ⟨g1, 2, none⟩)) := by rw [ha]; exact putSel_on (e := (9, 25, .pointer (some ⟨g1, 2, none⟩))) 9 rfl rfl (hon 9 (by kernel_rfl)) rfl
    replace ha := Aside0.mk ha
    have HB := Aside0.mk Q_HB
    have B1 := Aside0.mk Q_B1
    have B2 := Aside0.mk (Q_B2 (hoff 13 (by kernel_rfl)))
    have z := B1.out.cell 2
    refine value_ (w1 := w') (v := .slice A3 l3.length c3) (by rfl) rfl ?_ ?_
    ·go_simp
     (try simp only [i64_w])
     try rfl
     try assumption
    refine hK.out _ _ ⟨g, h, rs, Ar, cr, ns, Ba, ca, m3_, m8_, m12_, m14_, m15_, (by rw [ha.out]; exact putSel_upk 10 hb_ rfl rfl rfl), Q_HB, Q_B1, Q_B2, Q_GO, Q_GM, Q_RR, Q_RP, fun h0_ => absurd ((hoff 12 (by kernel_rfl)).symm.trans h0_) (by decide), fun h0_ => absurd ((hoff 12 (by kernel_rfl)).symm.trans h0_) (by decide), fun h0_ => absurd ((hoff 13 (by kernel_rfl)).symm.trans h0_) (by decide), Q_X3_, Q_X8_, fun h0_ => absurd ((hoff 12 (by kernel_rfl)).symm.trans h0_) (by decide), fun h0_ => absurd ((hoff 14 (by kernel_rfl)).symm.trans h0_) (by decide), fun h0_ => absurd ((hoff 15 (by kernel_rfl)).symm.trans h0_) (by decide)⟩
   refine steps_cons ?_ ?_
   ·rintro b a w' ⟨g, h, rs, Ar, cr, ns, Ba, ca, m3_, m8_, m12_, m14_, m15_, ha, Q_HB, Q_B1, Q_B2, Q_GO, Q_GM, Q_RR, Q_RP, Q_RN, Q_NP, Q_B3, Q_X3_, Q_X8_, Q_X12_, Q_X14_, Q_X15_⟩ hb_ hon hoff
    refine ⟨_, rfl, fun K hK => ?_⟩
    have e5 : a.tmps[5]? = some (.int .i64 (n : Int)) := by rw [ha]; exact (putSel_off rfl).trans rfl
    replace ha := Aside0.mk ha
    have HB := Aside0.mk Q_HB
    have B1 := Aside0.mk Q_B1
    have B2 := Aside0.mk (Q_B2 (hoff 13 (by kernel_rfl)))
    refine value_ (w1 := w') (v := .int .i64 (n : Int)) (by rfl) rfl ?_ ?_
    ·go_simp
     (try simp only [i64_w])
     try rfl
     try assumption
    refine hK.out _ _ ⟨g, h, rs, Ar, cr, ns, Ba, ca, m3_, m8_, m12_, m14_, m15_, (by rw [ha.out]; exact putSel_upk 11 hb_ rfl rfl rfl), Q_HB, Q_B1, Q_B2, Q_GO, Q_GM, Q_RR, Q_RP, fun h0_ => absurd ((hoff 12 (by kernel_rfl)).symm.trans h0_) (by decide), fun h0_ => absurd ((hoff 12 (by kernel_rfl)).symm.trans h0_) (by decide), fun h0_ => absurd ((hoff 13 (by kernel_rfl)).symm.trans h0_) (by decide), Q_X3_, Q_X8_, fun h0_ => absurd ((hoff 12 (by kernel_rfl)).symm.trans h0_) (by decide), fun h0_ => absurd ((hoff 14 (by kernel_rfl)).symm.trans h0_) (by decide), fun h0_ => absurd ((hoff 15 (by kernel_rfl)).symm.trans h0_) (by decide)⟩
   refine steps_cons ?_ ?_
   ·rintro b a w' ⟨g, h, rs, Ar, cr, ns, Ba, ca, m3_, m8_, m12_, m14_, m15_, ha, Q_HB, Q_B1, Q_B2, Q_GO, Q_GM, Q_RR, Q_RP, Q_RN, Q_NP, Q_B3, Q_X3_, Q_X8_, Q_X12_, Q_X14_, Q_X15_⟩ hb_ hon hoff
    refine ⟨_, rfl, fun K hK => ?_⟩
    have e26 : a.tmps[26]? = some (.slice A3 l3.length c3) := by rw [ha]; exact putSel_on (e := (10, 26, .slice A3 l3.length c3)) 10 rfl rfl (hon 10 (by kernel_rfl)) rfl
    have e27 : a.tmps[27]? = some (.int .i64 (n : Int)) := by rw [ha]; exact putSel_on (e := (11, 27, .int .i64 (n : Int))) 11 rfl rfl (hon 11 (by kernel_rfl)) rfl
    replace ha := Aside0.mk ha
    have HB := Aside0.mk Q_HB
    have B1 := Aside0.mk Q_B1
    have B2 := Aside0.mk (Q_B2 (hoff 13 (by kernel_rfl)))
    have GO := Aside0.mk (Q_GO (hon 3 (by kernel_rfl)))
    have GM := Aside0.mk (Q_GM (hon 3 (by kernel_rfl)))
    have RR := Aside0.mk (Q_RR (hon 8 (by kernel_rfl)))
    have RP := Aside0.mk (Q_RP (hon 8 (by kernel_rfl)))
    refine call_ 26 #[.slice A3 l3.length c3, .int .i64 (n : Int)] (by rfl) rfl ?_ ?_
    ·go_simp
    refine (madeAt_any l3 A3 c3 n w' (by have := HN3.out; omega) (Kd.C_below HC3.out HB.out)).mono ?_
    rintro e w2' ⟨ns0, Ba0, ca0, hnl, hnb, rfl, hnr, hnc, hb⟩
    refine ⟨_, rfl, ?_⟩
    refine hK.out _ _ ⟨g, h, rs, Ar, cr, ns0, Ba0, ca0, m3_, m8_, (.slice Ba0 ns0.length ca0), m14_, m15_, (by rw [ha.out]; exact putSel_upk 12 hb_ rfl rfl rfl), bthen' HB.out hb, B1.out.below hb, fun _ => B2.out.below hb, fun _ => GO.out.below hb, Q_GM, fun _ => Kd.R_below RR.out hb, Q_RP, fun _ => Kd.R_lower hnr HB.out.size, fun _ => ⟨hnl, hnb, hnc⟩, fun h0_ => absurd ((hoff 13 (by kernel_rfl)).symm.trans h0_) (by decide), Q_X3_, Q_X8_, fun _ => rfl, fun h0_ => absurd ((hoff 14 (by kernel_rfl)).symm.trans h0_) (by decide), fun h0_ => absurd ((hoff 15 (by kernel_rfl)).symm.trans h0_) (by decide)⟩
   refine steps_cons ?_ ?_
   ·rintro b a w' ⟨g, h, rs, Ar, cr, ns, Ba, ca, m3_, m8_, m12_, m14_, m15_, ha, Q_HB, Q_B1, Q_B2, Q_GO, Q_GM, Q_RR, Q_RP, Q_RN, Q_NP, Q_B3, Q_X3_, Q_X8_, Q_X12_, Q_X14_, Q_X15_⟩ hb_ hon hoff
    refine ⟨_, rfl, fun K hK => ?_⟩
    have e2 : a.tmps[2]? = some (.pointer (some ⟨g2, 0, none⟩)) := by rw [ha]; exact (putSel_off rfl).trans rfl
    have e19 : a.tmps[19]? = some (m3_) := by rw [ha]; exact putSel_on (e := (3, 19, m3_)) 3 rfl rfl (hon 3 (by kernel_rfl)) rfl
    rw [Q_X3_ (hon 3 (by kernel_rfl))] at e19
    replace ha := Aside0.mk ha
    have HB := Aside0.mk Q_HB
    have B1 := Aside0.mk Q_B1
    have B2 := Aside0.mk (Q_B2 hb_)
    have GO := Aside0.mk (Q_GO (hon 3 (by kernel_rfl)))
    have GM := Aside0.mk (Q_GM (hon 3 (by kernel_rfl)))
    have RR := Aside0.mk (Q_RR (hon 8 (by kernel_rfl)))
    have RP := Aside0.mk (Q_RP (hon 8 (by kernel_rfl)))
    have RN := Aside0.mk (Q_RN (hon 12 (by kernel_rfl)))
    have NP := Aside0.mk (Q_NP (hon 12 (by kernel_rfl)))
    have c0 := B2.out.cell 0
    have c1 := B2.out.cell 1
    have c2 := B2.out.cell 2
    have c3 := B2.out.cell 3
    have c4 := B2.out.cell 4
    have c5 := B2.out.cell 5
    have c6 := B2.out.cell 6
    have c7 := B2.out.cell 7
    simp only [List.getElem?_toArray, List.getElem?_cons_zero, List.getElem?_cons_succ] at c0 c1 c2 c3 c4 c5 c6 c7
    have f0 := B2.out.frozen 0
    have f1 := B2.out.frozen 1
    have f2 := B2.out.frozen 2
    have f3 := B2.out.frozen 3
    have f4 := B2.out.frozen 4
    have f5 := B2.out.frozen 5
    have f6 := B2.out.frozen 6
    have f7 := B2.out.frozen 7
    refine skip_ (w1 := ((((((((w'.setCell ⟨g2, 0, none⟩ (.slice h.a1 g.ct.length h.c1)).setCell ⟨g2, 1, none⟩ (.slice h.a2 g.an.length h.c2)).setCell ⟨g2, 2, none⟩ (.int .i64 g.hang.a)).setCell ⟨g2, 3, none⟩ (.int .i64 g.hang.b)).setCell ⟨g2, 4, none⟩ (.int .i64 g.hang.c)).setCell ⟨g2, 5, none⟩ (.int .i64 g.adv)).setCell ⟨g2, 6, none⟩ (.slice h.a3 g.dl.length h.c3)).setCell ⟨g2, 7, none⟩ (.slice h.a4 g.pr.length h.c4))) (by rfl) rfl ?_ ?_
    ·go_simp
    refine hK.out _ _ ⟨g, h, rs, Ar, cr, ns, Ba, ca, m3_, m8_, m12_, m14_, m15_, (by rw [ha.out]; exact putSel_none (v := undef) rfl), (bset (bset (bset (bset (bset (bset (bset (bset HB.out LG2.out 0 (.slice h.a1 g.ct.length h.c1)) LG2.out 1 (.slice h.a2 g.an.length h.c2)) LG2.out 2 (.int .i64 g.hang.a)) LG2.out 3 (.int .i64 g.hang.b)) LG2.out 4 (.int .i64 g.hang.c)) LG2.out 5 (.int .i64 g.adv)) LG2.out 6 (.slice h.a3 g.dl.length h.c3)) LG2.out 7 (.slice h.a4 g.pr.length h.c4)), ((((((((B1.out.far N12.out 0 (.slice h.a1 g.ct.length h.c1)).far N12.out 1 (.slice h.a2 g.an.length h.c2)).far N12.out 2 (.int .i64 g.hang.a)).far N12.out 3 (.int .i64 g.hang.b)).far N12.out 4 (.int .i64 g.hang.c)).far N12.out 5 (.int .i64 g.adv)).far N12.out 6 (.slice h.a3 g.dl.length h.c3)).far N12.out 7 (.slice h.a4 g.pr.length h.c4)), fun h0_ => absurd ((up_self b 13).symm.trans h0_) (by decide), fun _ => (GlO.set (GlO.set (GlO.set (GlO.set (GlO.set (GlO.set (GlO.set (GlO.set GO.out B2.out 0 (.slice h.a1 g.ct.length h.c1)) (B2.out.set 0 (.slice h.a1 g.ct.length h.c1)) 1 (.slice h.a2 g.an.length h.c2)) ((B2.out.set 0 (.slice h.a1 g.ct.length h.c1)).set 1 (.slice h.a2 g.an.length h.c2)) 2 (.int .i64 g.hang.a)) (((B2.out.set 0 (.slice h.a1 g.ct.length h.c1)).set 1 (.slice h.a2 g.an.length h.c2)).set 2 (.int .i64 g.hang.a)) 3 (.int .i64 g.hang.b)) ((((B2.out.set 0 (.slice h.a1 g.ct.length h.c1)).set 1 (.slice h.a2 g.an.length h.c2)).set 2 (.int .i64 g.hang.a)).set 3 (.int .i64 g.hang.b)) 4 (.int .i64 g.hang.c)) (((((B2.out.set 0 (.slice h.a1 g.ct.length h.c1)).set 1 (.slice h.a2 g.an.length h.c2)).set 2 (.int .i64 g.hang.a)).set 3 (.int .i64 g.hang.b)).set 4 (.int .i64 g.hang.c)) 5 (.int .i64 g.adv)) ((((((B2.out.set 0 (.slice h.a1 g.ct.length h.c1)).set 1 (.slice h.a2 g.an.length h.c2)).set 2 (.int .i64 g.hang.a)).set 3 (.int .i64 g.hang.b)).set 4 (.int .i64 g.hang.c)).set 5 (.int .i64 g.adv)) 6 (.slice h.a3 g.dl.length h.c3)) (((((((B2.out.set 0 (.slice h.a1 g.ct.length h.c1)).set 1 (.slice h.a2 g.an.length h.c2)).set 2 (.int .i64 g.hang.a)).set 3 (.int .i64 g.hang.b)).set 4 (.int .i64 g.hang.c)).set 5 (.int .i64 g.adv)).set 6 (.slice h.a3 g.dl.length h.c3)) 7 (.slice h.a4 g.pr.length h.c4)), Q_GM, fun _ => (Kd.R_set (Kd.R_set (Kd.R_set (Kd.R_set (Kd.R_set (Kd.R_set (Kd.R_set (Kd.R_set RR.out B2.out (by decide) 0 (.slice h.a1 g.ct.length h.c1)) (B2.out.set 0 (.slice h.a1 g.ct.length h.c1)) (by decide) 1 (.slice h.a2 g.an.length h.c2)) ((B2.out.set 0 (.slice h.a1 g.ct.length h.c1)).set 1 (.slice h.a2 g.an.length h.c2)) (by decide) 2 (.int .i64 g.hang.a)) (((B2.out.set 0 (.slice h.a1 g.ct.length h.c1)).set 1 (.slice h.a2 g.an.length h.c2)).set 2 (.int .i64 g.hang.a)) (by decide) 3 (.int .i64 g.hang.b)) ((((B2.out.set 0 (.slice h.a1 g.ct.length h.c1)).set 1 (.slice h.a2 g.an.length h.c2)).set 2 (.int .i64 g.hang.a)).set 3 (.int .i64 g.hang.b)) (by decide) 4 (.int .i64 g.hang.c)) (((((B2.out.set 0 (.slice h.a1 g.ct.length h.c1)).set 1 (.slice h.a2 g.an.length h.c2)).set 2 (.int .i64 g.hang.a)).set 3 (.int .i64 g.hang.b)).set 4 (.int .i64 g.hang.c)) (by decide) 5 (.int .i64 g.adv)) ((((((B2.out.set 0 (.slice h.a1 g.ct.length h.c1)).set 1 (.slice h.a2 g.an.length h.c2)).set 2 (.int .i64 g.hang.a)).set 3 (.int .i64 g.hang.b)).set 4 (.int .i64 g.hang.c)).set 5 (.int .i64 g.adv)) (by decide) 6 (.slice h.a3 g.dl.length h.c3)) (((((((B2.out.set 0 (.slice h.a1 g.ct.length h.c1)).set 1 (.slice h.a2 g.an.length h.c2)).set 2 (.int .i64 g.hang.a)).set 3 (.int .i64 g.hang.b)).set 4 (.int .i64 g.hang.c)).set 5 (.int .i64 g.adv)).set 6 (.slice h.a3 g.dl.length h.c3)) (by decide) 7 (.slice h.a4 g.pr.length h.c4)), Q_RP, fun _ => (Kd.R_set (Kd.R_set (Kd.R_set (Kd.R_set (Kd.R_set (Kd.R_set (Kd.R_set (Kd.R_set RN.out B2.out (by decide) 0 (.slice h.a1 g.ct.length h.c1)) (B2.out.set 0 (.slice h.a1 g.ct.length h.c1)) (by decide) 1 (.slice h.a2 g.an.length h.c2)) ((B2.out.set 0 (.slice h.a1 g.ct.length h.c1)).set 1 (.slice h.a2 g.an.length h.c2)) (by decide) 2 (.int .i64 g.hang.a)) (((B2.out.set 0 (.slice h.a1 g.ct.length h.c1)).set 1 (.slice h.a2 g.an.length h.c2)).set 2 (.int .i64 g.hang.a)) (by decide) 3 (.int .i64 g.hang.b)) ((((B2.out.set 0 (.slice h.a1 g.ct.length h.c1)).set 1 (.slice h.a2 g.an.length h.c2)).set 2 (.int .i64 g.hang.a)).set 3 (.int .i64 g.hang.b)) (by decide) 4 (.int .i64 g.hang.c)) (((((B2.out.set 0 (.slice h.a1 g.ct.length h.c1)).set 1 (.slice h.a2 g.an.length h.c2)).set 2 (.int .i64 g.hang.a)).set 3 (.int .i64 g.hang.b)).set 4 (.int .i64 g.hang.c)) (by decide) 5 (.int .i64 g.adv)) ((((((B2.out.set 0 (.slice h.a1 g.ct.length h.c1)).set 1 (.slice h.a2 g.an.length h.c2)).set 2 (.int .i64 g.hang.a)).set 3 (.int .i64 g.hang.b)).set 4 (.int .i64 g.hang.c)).set 5 (.int .i64 g.adv)) (by decide) 6 (.slice h.a3 g.dl.length h.c3)) (((((((B2.out.set 0 (.slice h.a1 g.ct.length h.c1)).set 1 (.slice h.a2 g.an.length h.c2)).set 2 (.int .i64 g.hang.a)).set 3 (.int .i64 g.hang.b)).set 4 (.int .i64 g.hang.c)).set 5 (.int .i64 g.adv)).set 6 (.slice h.a3 g.dl.length h.c3)) (by decide) 7 (.slice h.a4 g.pr.length h.c4)), Q_NP, fun _ => ((((((((B2.out.put 0 (.slice h.a1 g.ct.length h.c1) rfl).put 1 (.slice h.a2 g.an.length h.c2) rfl).put 2 (.int .i64 g.hang.a) rfl).put 3 (.int .i64 g.hang.b) rfl).put 4 (.int .i64 g.hang.c) rfl).put 5 (.int .i64 g.adv) rfl).put 6 (.slice h.a3 g.dl.length h.c3) rfl).put 7 (.slice h.a4 g.pr.length h.c4) rfl), Q_X3_, Q_X8_, Q_X12_, fun h0_ => absurd ((hoff 14 (by kernel_rfl)).symm.trans h0_) (by decide), fun h0_ => absurd ((hoff 15 (by kernel_rfl)).symm.trans h0_) (by decide)⟩
   refine steps_cons ?_ ?_
   ·rintro b a w' ⟨g, h, rs, Ar, cr, ns, Ba, ca, m3_, m8_, m12_, m14_, m15_, ha, Q_HB, Q_B1, Q_B2, Q_GO, Q_GM, Q_RR, Q_RP, Q_RN, Q_NP, Q_B3, Q_X3_, Q_X8_, Q_X12_, Q_X14_, Q_X15_⟩ hb_ hon hoff
    refine ⟨_, rfl, fun K hK => ?_⟩
    have e24 : a.tmps[24]? = some (m8_) := by rw [ha]; exact putSel_on (e := (8, 24, m8_)) 8 rfl rfl (hon 8 (by kernel_rfl)) rfl
    rw [Q_X8_ (hon 8 (by kernel_rfl))] at e24
    replace ha := Aside0.mk ha
    have HB := Aside0.mk Q_HB
    have B1 := Aside0.mk Q_B1
    have GO := Aside0.mk (Q_GO (hon 3 (by kernel_rfl)))
    have GM := Aside0.mk (Q_GM (hon 3 (by kernel_rfl)))
    have RR := Aside0.mk (Q_RR (hon 8 (by kernel_rfl)))
    have RP := Aside0.mk (Q_RP (hon 8 (by kernel_rfl)))
    have RN := Aside0.mk (Q_RN (hon 12 (by kernel_rfl)))
    have NP := Aside0.mk (Q_NP (hon 12 (by kernel_rfl)))
    have B3 := Aside0.mk (Q_B3 (hon 13 (by kernel_rfl)))
    refine value_ (w1 := w') (v := .slice Ar rs.length cr) (by rfl) rfl ?_ ?_
    ·go_simp
     (try simp only [i64_w])
     try rfl
     try assumption
    refine hK.out _ _ ⟨g, h, rs, Ar, cr, ns, Ba, ca, m3_, m8_, m12_, (.slice Ar rs.length cr), m15_, (by rw [ha.out]; exact putSel_upk 13 hb_ rfl rfl rfl), Q_HB, Q_B1, fun h0_ => absurd ((hon 13 (by kernel_rfl)).symm.trans h0_) (by decide), Q_GO, Q_GM, Q_RR, Q_RP, Q_RN, Q_NP, Q_B3, Q_X3_, Q_X8_, Q_X12_, fun _ => rfl, fun h0_ => absurd ((hoff 15 (by kernel_rfl)).symm.trans h0_) (by decide)⟩
   refine steps_cons ?_ ?_
   ·rintro b a w' ⟨g, h, rs, Ar, cr, ns, Ba, ca, m3_, m8_, m12_, m14_, m15_, ha, Q_HB, Q_B1, Q_B2, Q_GO, Q_GM, Q_RR, Q_RP, Q_RN, Q_NP, Q_B3, Q_X3_, Q_X8_, Q_X12_, Q_X14_, Q_X15_⟩ hb_ hon hoff
    refine ⟨_, rfl, fun K hK => ?_⟩
    have e28 : a.tmps[28]? = some (m12_) := by rw [ha]; exact putSel_on (e := (12, 28, m12_)) 12 rfl rfl (hon 12 (by kernel_rfl)) rfl
    rw [Q_X12_ (hon 12 (by kernel_rfl))] at e28
    replace ha := Aside0.mk ha
    have HB := Aside0.mk Q_HB
    have B1 := Aside0.mk Q_B1
    have GO := Aside0.mk (Q_GO (hon 3 (by kernel_rfl)))
    have GM := Aside0.mk (Q_GM (hon 3 (by kernel_rfl)))
    have RR := Aside0.mk (Q_RR (hon 8 (by kernel_rfl)))
    have RP := Aside0.mk (Q_RP (hon 8 (by kernel_rfl)))
    have RN := Aside0.mk (Q_RN (hon 12 (by kernel_rfl)))
    have NP := Aside0.mk (Q_NP (hon 12 (by kernel_rfl)))
    have B3 := Aside0.mk (Q_B3 (hon 13 (by kernel_rfl)))
    refine value_ (w1 := w') (v := .slice Ba ns.length ca) (by rfl) rfl ?_ ?_
    ·go_simp
     (try simp only [i64_w])
     try rfl
     try assumption
    refine hK.out _ _ ⟨g, h, rs, Ar, cr, ns, Ba, ca, m3_, m8_, m12_, m14_, (.slice Ba ns.length ca), (by rw [ha.out]; exact putSel_upk 14 hb_ rfl rfl rfl), Q_HB, Q_B1, fun h0_ => absurd ((hon 13 (by kernel_rfl)).symm.trans h0_) (by decide), Q_GO, Q_GM, Q_RR, Q_RP, Q_RN, Q_NP, Q_B3, Q_X3_, Q_X8_, Q_X12_, Q_X14_, fun _ => rfl⟩
   exact steps_nil
  ·rintro b a w' hall ⟨g, h, rs, Ar, cr, ns, Ba, ca, m3_, m8_, m12_, m14_, m15_, ha, Q_HB, Q_B1, Q_B2, Q_GO, Q_GM, Q_RR, Q_RP, Q_RN, Q_NP, Q_B3, Q_X3_, Q_X8_, Q_X12_, Q_X14_, Q_X15_⟩
   clear B1 B2 HB
   have hb0_ := hall 0 (by kernel_rfl)
   have hb1_ := hall 1 (by kernel_rfl)
   have hb2_ := hall 2 (by kernel_rfl)
   have hb3_ := hall 3 (by kernel_rfl)
   have hb4_ := hall 4 (by kernel_rfl)
   have hb5_ := hall 5 (by kernel_rfl)
   have hb6_ := hall 6 (by kernel_rfl)
   have hb7_ := hall 7 (by kernel_rfl)
   have hb8_ := hall 8 (by kernel_rfl)
   have hb9_ := hall 9 (by kernel_rfl)
   have hb10_ := hall 10 (by kernel_rfl)
   have hb11_ := hall 11 (by kernel_rfl)
   have hb12_ := hall 12 (by kernel_rfl)
   have hb13_ := hall 13 (by kernel_rfl)
   have hb14_ := hall 14 (by kernel_rfl)
   have hb15_ := hall 15 (by kernel_rfl)
   subst ha
   obtain rfl := Q_X3_ hb3_
   obtain rfl := Q_X8_ hb8_
   obtain rfl := Q_X12_ hb12_
   obtain rfl := Q_X14_ hb14_
   obtain rfl := Q_X15_ hb15_
   simp only [putSel, hb0_, hb1_, hb2_, hb3_, hb4_, hb5_, hb6_, hb7_, hb8_, hb9_, hb10_, hb11_, hb12_, hb13_, hb14_, hb15_, if_true, Act.put, List.setIfInBounds_toArray, List.set_cons_zero, List.set_cons_succ]
   have HB := Aside0.mk Q_HB
   clear Q_HB
   have B1 := Aside0.mk Q_B1
   clear Q_B1
   clear Q_B2
   have GO := Aside0.mk (Q_GO hb3_)
   clear Q_GO
   have GM := Aside0.mk (Q_GM hb3_)
   clear Q_GM
   have RR := Aside0.mk (Q_RR hb8_)
   clear Q_RR
   have RP := Aside0.mk (Q_RP hb8_)
   clear Q_RP
   have RN := Aside0.mk (Q_RN hb12_)
   clear Q_RN
   have NP := Aside0.mk (Q_NP hb12_)
   clear Q_NP
   have B3 := Aside0.mk (Q_B3 hb13_)
   clear Q_B3
   clear hall hb0_ hb1_ hb2_ hb3_ hb4_ hb5_ hb6_ hb7_ hb8_ hb9_ hb10_ hb11_ hb12_ hb13_ hb14_ hb15_
   generalize w' = w4 at *
   go_wp2_with fail
   obtain ⟨e1_, e2_⟩ := RP.out
   obtain ⟨f1_, f2_, f3_⟩ := NP.out
   refine bodyPost_ret (res_ctt (g := g2) rfl _ _ _ _ _ rfl B3.out rfl Try.underlying29 (by kernel_rfl)) rfl ⟨g, h, rs, Ar, cr, ns, Ba, ca, rfl, ⟨GO.out.glR, by rw [e1_]; exact GM.out, by rw [e1_]; exact HM3.out, by rw [f1_]; exact e2_, by rw [f1_]; exact HN1.out, by rw [f1_]; exact HN3.out, f2_, (Kd.R_reads' RR.out).2.2, (Kd.R_reads' RR.out).2.1, (Kd.R_reads' RN.out).2.2, f3_, HB.out⟩⟩
end Go.Proofs.Ythpccdhmppbkfaa
/- the reference's Numbers. -/
set_option linter.unusedVariables false
set_option linter.unusedSimpArgs false
namespace Go.Proofs.Ythpccdhmppbkfaa
open Go.RowKit Go.Shelf Go.Proofs.YthpccdhmppbkfaaW.PrintWords Go.Proofs.YthpccdhmppbkfaaW.PrintLast Go.Proofs.YthpccdhmppbkfaaW.PrintMore
/-- some numbers appended, made in block g -/
theorem append_ints {w0 w : World} {base : Nat} {v : Value} {xs : List Int} (hR : Kd.R kI 3 w base (fun _ => True) v xs) (hB : Below base w0 w) (hbase : base ≤ w.heap.size) (g : Nat) (ys : List Int) (hblk : Blk w g (encs (Value.int .i64) ys).toArray 3) (hl : (xs.length + ys.length) * 8 ≤ 140737488355328) :
  ∃ v' w', (Builtin.append_ #[30, 30] 30 #[v, .slice (some ⟨g, 0, none⟩) ys.length ys.length]).run Try.prog w = .ok v' w' ∧ Kd.R kI 3 w' base (fun _ => True) v' (xs ++ ys) ∧ Below base w0 w' ∧ w.grownBy w' v.ownBlock := by
 have hown := Kd.own_of_R (h1 := fun _ => rfl) (enc := Value.int .i64) hR
 obtain ⟨i0, hi, hzz⟩ := Option.map_eq_some_iff.1 infoInt
 simp only [Prod.mk.injEq] at hzz
 obtain ⟨hz0, hz1, hz2⟩ := hzz
 obtain ⟨v1, w1, hrun, ho, hg, _, hat⟩ := run_append_own_at (P := Try.prog) w base 30 30 3 i0 _ 1 8 (by kernel_rfl) hi hz0 hz1 hz2 rfl (by decide) v xs.length _ hown ⟨g, 0, none⟩ ys.length ys.length (encs (Value.int .i64) ys) (by rw [Nat.mul_one, encs_length]) (by
  intro j u hu
  have hb := hblk.cell j
  rw [add_plain, hb]
  simpa using hu) (by intro v hv; unfold encs at hv; obtain ⟨x, _, rfl⟩ := List.mem_map.1 hv; rfl) (by simp only [maxLen]; omega) hl hbase
 refine ⟨v1, w1, hrun, Kd.R_of_own (h1 := fun _ => rfl) (by rw [List.length_append, encs_append]; exact ho) (fun _ _ => trivial), hB.grown hg hbase (own_base hown), hg⟩
theorem C_three {w : World} {g : Nat} {x y z : Int} (B : Blk w g #[.int .i64 x, .int .i64 y, .int .i64 z] 3) : Kd.C kI w (some ⟨g, 0, none⟩) [x, y, z].length [x, y, z] := by
 refine ⟨rfl, by simp, fun _ => ⟨⟨g, 0, none⟩, rfl, fun j p hp => ?_⟩⟩
 match j, hp with
 | 0, hp => cases hp; exact ⟨[.int .i64 x], rfl, rfl, fun i u hu => by
   match i, hu with
   | 0, hu => cases hu; exact B.cell 0
   | i + 1, hu => simp at hu⟩
 | 1, hp => cases hp; exact ⟨[.int .i64 y], rfl, rfl, fun i u hu => by
   match i, hu with
   | 0, hu => cases hu; exact B.cell 1
   | i + 1, hu => simp at hu⟩
 | 2, hp => cases hp; exact ⟨[.int .i64 z], rfl, rfl, fun i u hu => by
   match i, hu with
   | 0, hu => cases hu; exact B.cell 2
   | i + 1, hu => simp at hu⟩
 | j + 3, hp => simp at hp
def numP (l : List Pt) : List Int := l.flatMap fun p => [p.a, p.b]
def numC (l : List (List Pt)) : List Int := l.flatMap numP
def numA (l : List I3) : List Int := l.flatMap fun p => [p.b, p.c]
def numL (ct : List (List Pt)) (an : List I3) (xb xc av : Int) : List Int := numC ct ++ numA an ++ [xb, xc, av]
theorem numP_snoc (l : List Pt) (a b : Int) (c : Bool) : numP (l ++ [⟨a, b, c⟩]) = numP l ++ [a, b] := by simp [numP]
theorem numA_snoc (l : List I3) (z a b : Int) : numA (l ++ [⟨z, a, b⟩]) = numA l ++ [a, b] := by simp [numA]
theorem numC_snoc (l : List (List Pt)) (q : List Pt) : numC (l ++ [q]) = numC l ++ numP q := by simp [numC]
theorem numP_len : ∀ l : List Pt, (numP l).length = 2 * l.length
 | [] => rfl
 | a :: l => by
  have h := numP_len l
  unfold numP at h ⊢
  rw [List.flatMap_cons, List.length_append, h]
  simp only [List.length_cons, List.length_nil]
  omega
theorem numA_len : ∀ l : List I3, (numA l).length = 2 * l.length
 | [] => rfl
 | a :: l => by
  have h := numA_len l
  unfold numA at h ⊢
  rw [List.flatMap_cons, List.length_append, h]
  simp only [List.length_cons, List.length_nil]
  omega
theorem numC_len : ∀ l : List (List Pt), (numC l).length = 2 * ptsN l
 | [] => rfl
 | a :: l => by
  have h := numC_len l
  unfold numC at h ⊢
  rw [List.flatMap_cons, List.length_append, h, numP_len]
  unfold ptsN
  rw [List.map_cons, List.sum_cons]
  omega
def oNu8.T8 : Bool × List (List Nat × List Nat) := (true, [([], []), ([], []), ([1], [1]), ([], []), ([2, 3], [2, 3]), ([4], [4]), ([], []), ([5, 6], [5, 6]), ([7], [7]), ([8], [8]), ([], []), ([10], [10]), ([], []), ([11, 12], [11, 12]), ([13], [13]), ([], []), ([14, 15], [14, 15]), ([16], [16]), ([17], [17]), ([9, 18], [9, 18]), ([0, 19], [0, 19]), ([20, 20, 0, 1, 2, 3, 4, 5, 6, 7, 8, 9, 10, 11, 12, 13, 14, 15, 16, 17, 18, 19, 20], [0, 20])])
def oNu8.B8 : List Nat := [0, 0, 2, 0, 14, 30, 0, 126, 254, 510, 0, 1024, 0, 7168, 15360, 0, 64512, 130048, 261120, 524286, 1048575, 2097151]
theorem oNu8.tab8 : rtab .any (opsOf Try.f15 8) = oNu8.T8 := by kernel_rfl
theorem oNu8.bits8 : waitsOk oNu8.T8.2 oNu8.B8 = true := by kernel_rfl
def oNu12.T12 : Bool × List (List Nat × List Nat) := (true, [([], []), ([], []), ([1], [1]), ([], []), ([2, 3], [2, 3]), ([4], [4]), ([5], [5]), ([], []), ([7], [7]), ([], []), ([8, 9], [8, 9]), ([10], [10]), ([11], [11]), ([6, 12], [6, 12]), ([0, 13], [0, 13]), ([14, 14, 0, 1, 2, 3, 4, 5, 6, 7, 8, 9, 10, 11, 12, 13, 14], [0, 14])])
def oNu12.B12 : List Nat := [0, 0, 2, 0, 14, 30, 62, 0, 128, 0, 896, 1920, 3968, 8190, 16383, 32767]
theorem oNu12.tab12 : rtab .any (opsOf Try.f15 12) = oNu12.T12 := by kernel_rfl
theorem oNu12.bits12 : waitsOk oNu12.T12.2 oNu12.B12 = true := by kernel_rfl
set_option maxRecDepth 100000 in
set_option maxHeartbeats 16000000 in
theorem numbers_any (ct : List (List Pt)) (an : List I3) (xa xb xc av : Int) (A1 A2 : Option Addr) (c1 c2 : Nat) (w : World) (h1 : ct.length ≤ 1000000) (h2 : an.length ≤ 1000000) (h3 : ∀ q ∈ ct, q.length ≤ 1000000) (h4 : ptsN ct ≤ 1000000) (hC : Kd.C kCt w A1 ct.length ct) (hA : Kd.C kI3 w A2 an.length an) :
  Calls Try.prog 15 #[.agg #[.slice A1 ct.length c1, .slice A2 an.length c2, .int .i64 xa, .int .i64 xb, .int .i64 xc, .int .i64 av]] w fun e w' => ∃ v, e = .returned v ∧ Kd.R kI 3 w' w.heap.size (fun _ => True) v (numL ct an xb xc av) ∧ Below w.heap.size w w' := by
 have HCL := Lib.hid h1
 have HAL := Lib.hid h2
 have HCP := Lib.hid h3
 have HPN := Lib.hid h4
 have HC := Lib.hid hC
 have HA := Lib.hid hA
 clear h1 h2 h3 h4 hC hA
 go_enter Try.func15, Try.ntmps15
 go_upto_region 1 with fail
 obtain ⟨w1, g1, hw0_, hg0_, Xg1_, Yg1_, _⟩ := new_box w #[.slice A1 ct.length c1, .slice A2 an.length c2, .int .i64 xa, .int .i64 xb, .int .i64 xc, .int .i64 av] 51
 rw [hw0_, hg0_]
 have Eg1 := Lib.hid (show g1 = w.heap.size + 0 by omega)
 clear hw0_ hg0_
 have HXw1 := Lib.hid (Yg1_.out)
 have Bg1 := Lib.hid (Xg1_.out)
 clear Xg1_ Yg1_
 have HWW := Lib.hid (show Below w.heap.size w w1 from HXw1.out)
 have BD_ := Bg1
 clear Bg1 HXw1
 go_wp2_with fail
 go_loopw [3, 4] (fun s i wr => ∃ (k : Nat), i = .int .i64 (k : Int) ∧ k ≤ ct.length ∧ Hid (Blk wr g1 #[.slice A1 ct.length c1, .slice A2 an.length c2, .int .i64 xa, .int .i64 xb, .int .i64 xc, .int .i64 av] 51) ∧ Hid (Kd.R kI 3 wr w.heap.size (fun _ => True) s (numC (ct.take k))) ∧ Hid (Below w.heap.size w wr)) (fun _ i _ => ct.length - (intOf i).toNat)
 case atStart => exact ⟨0, rfl, Nat.zero_le _, BD_, Lib.hid (Kd.R_nil _ _ _ _ _), HWW⟩
 case round =>
  clear BD_ HWW
  obtain ⟨k, rfl, hk, BD_, HR, HWW⟩ := hrel
  by_cases hlt : k < ct.length
  ·have d1 : decide (k < ct.length) = true := decide_eq_true hlt
   have d2 : decide ((k : Int) < (ct.length : Int)) = true := decide_eq_true (by omega)
   have HKL := Lib.hid hlt
   have hk6 : k < 1000000 := by have := HCL.out; omega
   have HTK := Lib.hid (take_at ct k hlt [])
   have HPK := Lib.hid (ptsN_take ct k hlt)
   obtain ⟨ad, c0, hA1, hK, p0⟩ := el1 (d := kCt) rfl HC.out [] k hlt
   subst hA1
   obtain ⟨Ai, ci, hcs, hcl, hM⟩ := kSl_open hK
   simp only [List.cons.injEq, and_true] at hcs
   subst hcs
   have P0 := Lib.hid p0
   have HM := Lib.hid hM
   have HQC := Lib.hid (show (ct.getD k []).length ≤ 1000000 from HCP.out _ (getD_at hlt []))
   clear hK hM p0 hcl hlt hk
   generalize ct.getD k [] = q at *
   have BK0 := Lib.hid (show (0 : Int) ≤ (k : Int) by omega)
   have BK1 := Lib.hid (show (k : Int) < (ct.length : Int) by have := HKL.out; omega)
   have c0 := BD_.out.cell 0
   simp only [List.getElem?_toArray, List.getElem?_cons_zero, List.getElem?_cons_succ] at c0
   go_wp2_with fail
   clear c0
   generalize wr = wo at *
   go_loopw [3, 5] (fun s i wr => ∃ (j : Nat), i = .int .i64 (j : Int) ∧ j ≤ q.length ∧ Hid (Blk wr g1 #[.slice (some ad) ct.length c1, .slice A2 an.length c2, .int .i64 xa, .int .i64 xb, .int .i64 xc, .int .i64 av] 51) ∧ Hid (Kd.R kI 3 wr w.heap.size (fun _ => True) s (numC (ct.take k) ++ numP (q.take j))) ∧ Hid (Below w.heap.size w wr)) (fun _ i _ => q.length - (intOf i).toNat)
   case atStart => exact ⟨0, rfl, Nat.zero_le _, BD_, Lib.hid (by rw [show q.take 0 = [] from rfl, show numP [] = [] from rfl, List.append_nil]; exact HR.out), HWW⟩
   case round =>
    clear BD_ HR HWW
    obtain ⟨j, rfl, hj, BD_, HR, HWW⟩ := hrel
    have z1 := pw_cell_below HWW.out P0.out
    by_cases hjl : j < q.length
    ·have HLX := Lib.hid (show (numC (ct.take k) ++ numP (q.take j)).length ≤ 5000000 by rw [List.length_append, numC_len, numP_len, List.length_take]; have := ptsN_le ct k; have := HPN.out; have := HQC.out; omega)
     generalize hxs : numC (ct.take k) ++ numP (q.take j) = xs at *
     obtain ⟨Av, cw, rfl⟩ := Kd.R_slice HR.out
     have e1 : decide (j < q.length) = true := decide_eq_true hjl
     have e2 : decide ((j : Int) < (q.length : Int)) = true := decide_eq_true (by omega)
     have HJL := Lib.hid hjl
     have hj6 : j < 1000000 := by have := HQC.out; omega
     have HTJ := Lib.hid (take_at q j hjl zPt)
     obtain ⟨ae, a0, a1, a2, hA3, hK3, p0, p1, p2⟩ := el3 (d := kPt) rfl HM.out zPt j hjl
     subst hA3
     have hcs := kPt_open hK3
     simp only [List.cons.injEq, and_true] at hcs
     obtain ⟨rfl, rfl, rfl⟩ := hcs
     generalize q.getD j zPt = pp at *
     obtain ⟨pa, pb, pc⟩ := pp
     dsimp only at p0 p1
     have PP0 := Lib.hid p0
     have PP1 := Lib.hid p1
     clear p0 p1 p2 hK3 hj hjl
     have BJ0 := Lib.hid (show (0 : Int) ≤ (j : Int) by omega)
     have BJ1 := Lib.hid (show (j : Int) < (q.length : Int) by have := HJL.out; omega)
     have bk0 := BK0.out
     have bk1 := BK1.out
     have c0 := BD_.out.cell 0
     simp only [List.getElem?_toArray, List.getElem?_cons_zero, List.getElem?_cons_succ] at c0
     go_upto_region 8 with fail
     clear c0 z1 bk0 bk1 e1 e2
     refine start_ (n := 22) (S := fun w' => True) (ds := []) #[false, false, false, false, false, false, false, false, false, false, false, false, false, false, false, false, false, false, false, false, false, false] (by kernel_rfl) rfl rfl trivial (fun hHeld => ?_)
     refine with_tabW oNu8.tab8 oNu8.bits8 (fun HT_ HW_ => ?_)
     have HB : Aside0 (Below w.heap.size w wr.drew) := ⟨bdrew HWW.out⟩
     have BD : Aside0 (Blk wr.drew g1 #[.slice (some ad) ct.length c1, .slice A2 an.length c2, .int .i64 xa, .int .i64 xb, .int .i64 xc, .int .i64 av] 51) := ⟨BD_.out.drew⟩
     have RN : Aside0 (Kd.R kI 3 wr.drew w.heap.size (fun _ => True) (.slice Av xs.length cw) xs) := ⟨Kd.R_below HR.out (below_drew (Below.refl _ _))⟩
     generalize hwd : wr.drew = w1' at *
     clear hwd
     refine inv_at [0, 1, 2, 3, 4, 5, 6, 7, 8, 9, 10, 11, 12, 13, 14, 15, 16, 17, 18, 19, 20, 21] (fun a0_ b a w' => ∃ (ge : Nat) (v1 : Value) (m19_ : Value) (m21_ : Value), a = putSel a0_ b [(0, 24, .slice Av xs.length cw), (1, 25, .pointer (some ⟨g1, 0, none⟩)), (2, 26, .slice (some ad) ct.length c1), (3, 27, .int .i64 (k : Int)), (4, 28, .pointer (some (ad.add k))), (5, 29, .slice (some ae) q.length ci), (6, 30, .int .i64 (j : Int)), (7, 31, .pointer (some (ae.add (j * 3)))), (8, 32, .pointer (some (ae.add (j * 3)))), (9, 33, .int .i64 pa), (10, 34, .pointer (some ⟨g1, 0, none⟩)), (11, 35, .slice (some ad) ct.length c1), (12, 36, .int .i64 (k : Int)), (13, 37, .pointer (some (ad.add k))), (14, 38, .slice (some ae) q.length ci), (15, 39, .int .i64 (j : Int)), (16, 40, .pointer (some (ae.add (j * 3)))), (17, 41, .pointer (some (⟨(ae.add (j * 3)).block, (ae.add (j * 3)).off + 1, none⟩))), (18, 42, .int .i64 pb), (19, 43, m19_), (20, 44, v1), (21, 3, m21_)] ∧ (Below w.heap.size w w') ∧ (Blk w' g1 #[.slice (some ad) ct.length c1, .slice A2 an.length c2, .int .i64 xa, .int .i64 xb, .int .i64 xc, .int .i64 av] 51) ∧ (b 20 = false → Kd.R kI 3 w' w.heap.size (fun _ => True) (.slice Av xs.length cw) xs) ∧ (b 19 = true → b 20 = false → Blk w' ge #[.int .i64 pa, .int .i64 pb] 3) ∧ (b 19 = true → w.heap.size ≤ ge) ∧ (b 20 = true → Kd.R kI 3 w' w.heap.size (fun _ => True) v1 (xs ++ [pa, pb])) ∧ (b 19 = true → (m19_ : Value) = .slice (some ⟨ge, 0, none⟩) 2 2) ∧ (b 21 = true → (m21_ : Value) = v1)) HT_.out HW_.out (by kernel_rfl) (by kernel_rfl) ?_ ?_ ?_
     ·exact ⟨0, undef, .bool false, .bool false, by simp only [putSel, Bool.false_eq_true, if_false], HB.out, BD.out, fun _ => RN.out, fun h_ => absurd h_ (by decide), fun h_ => absurd h_ (by decide), fun h_ => absurd h_ (by decide), fun h_ => absurd h_ (by decide), fun h_ => absurd h_ (by decide)⟩
     ·skip
      clear BD HB RN
      refine steps_cons ?_ ?_
      ·rintro b a w' ⟨ge, v1, m19_, m21_, ha, Q_HB, Q_BD, Q_RN, Q_EB, Q_Lge, Q_RM, Q_X19_, Q_X21_⟩ hb_ hon hoff
       refine ⟨_, rfl, fun K hK => ?_⟩
       have e3 : a.tmps[3]? = some (.slice Av xs.length cw) := by rw [ha]; exact (putSel_not (hoff 21 (by kernel_rfl)) rfl).trans rfl
       replace ha := Aside0.mk ha
       have HB := Aside0.mk Q_HB
       have BD := Aside0.mk Q_BD
       have RN := Aside0.mk (Q_RN (hoff 20 (by kernel_rfl)))
       refine value_ (w1 := w') (v := .slice Av xs.length cw) (by rfl) rfl ?_ ?_
       ·go_simp
        (try simp only [i64_w])
        try rfl
        try assumption
       refine hK.out _ _ ⟨ge, v1, m19_, m21_, (by rw [ha.out]; exact putSel_upk 0 hb_ rfl rfl rfl), Q_HB, Q_BD, Q_RN, Q_EB, Q_Lge, fun h0_ => absurd ((hoff 20 (by kernel_rfl)).symm.trans h0_) (by decide), Q_X19_, fun h0_ => absurd ((hoff 21 (by kernel_rfl)).symm.trans h0_) (by decide)⟩
      refine steps_cons ?_ ?_
      ·rintro b a w' ⟨ge, v1, m19_, m21_, ha, Q_HB, Q_BD, Q_RN, Q_EB, Q_Lge, Q_RM, Q_X19_, Q_X21_⟩ hb_ hon hoff
       refine ⟨_, rfl, fun K hK => ?_⟩
       have e1 : a.tmps[1]? = some (.pointer (some ⟨g1, 0, none⟩)) := by rw [ha]; exact (putSel_off rfl).trans rfl
       replace ha := Aside0.mk ha
       have HB := Aside0.mk Q_HB
       have BD := Aside0.mk Q_BD
       have RN := Aside0.mk (Q_RN (hoff 20 (by kernel_rfl)))
       refine value_ (w1 := w') (v := .pointer (some ⟨g1, 0, none⟩)) (by rfl) rfl ?_ ?_
       ·go_simp
        (try simp only [i64_w])
        try rfl
        try assumption
       refine hK.out _ _ ⟨ge, v1, m19_, m21_, (by rw [ha.out]; exact putSel_upk 1 hb_ rfl rfl rfl), Q_HB, Q_BD, Q_RN, fun h0_ _ => absurd ((hoff 19 (by kernel_rfl)).symm.trans h0_) (by decide), fun h0_ => absurd ((hoff 19 (by kernel_rfl)).symm.trans h0_) (by decide), fun h0_ => absurd ((hoff 20 (by kernel_rfl)).symm.trans h0_) (by decide), fun h0_ => absurd ((hoff 19 (by kernel_rfl)).symm.trans h0_) (by decide), fun h0_ => absurd ((hoff 21 (by kernel_rfl)).symm.trans h0_) (by decide)⟩
      refine steps_cons ?_ ?_
      ·rintro b a w' ⟨ge, v1, m19_, m21_, ha, Q_HB, Q_BD, Q_RN, Q_EB, Q_Lge, Q_RM, Q_X19_, Q_X21_⟩ hb_ hon hoff
       refine ⟨_, rfl, fun K hK => ?_⟩
       have e25 : a.tmps[25]? = some (.pointer (some ⟨g1, 0, none⟩)) := by rw [ha]; exact putSel_on (e := (1, 25, .pointer (some ⟨g1, 0, none⟩))) 1 rfl rfl (hon 1 (by kernel_rfl)) rfl
       replace ha := Aside0.mk ha
       have HB := Aside0.mk Q_HB
       have BD := Aside0.mk Q_BD
       have RN := Aside0.mk (Q_RN (hoff 20 (by kernel_rfl)))
       have z := BD.out.cell 0
       refine value_ (w1 := w') (v := .slice (some ad) ct.length c1) (by rfl) rfl ?_ ?_
       ·go_simp
        (try simp only [i64_w])
        try rfl
        try assumption
       refine hK.out _ _ ⟨ge, v1, m19_, m21_, (by rw [ha.out]; exact putSel_upk 2 hb_ rfl rfl rfl), Q_HB, Q_BD, Q_RN, fun h0_ _ => absurd ((hoff 19 (by kernel_rfl)).symm.trans h0_) (by decide), fun h0_ => absurd ((hoff 19 (by kernel_rfl)).symm.trans h0_) (by decide), fun h0_ => absurd ((hoff 20 (by kernel_rfl)).symm.trans h0_) (by decide), fun h0_ => absurd ((hoff 19 (by kernel_rfl)).symm.trans h0_) (by decide), fun h0_ => absurd ((hoff 21 (by kernel_rfl)).symm.trans h0_) (by decide)⟩
      refine steps_cons ?_ ?_
      ·rintro b a w' ⟨ge, v1, m19_, m21_, ha, Q_HB, Q_BD, Q_RN, Q_EB, Q_Lge, Q_RM, Q_X19_, Q_X21_⟩ hb_ hon hoff
       refine ⟨_, rfl, fun K hK => ?_⟩
       have e4 : a.tmps[4]? = some (.int .i64 (k : Int)) := by rw [ha]; exact (putSel_off rfl).trans rfl
       replace ha := Aside0.mk ha
       have HB := Aside0.mk Q_HB
       have BD := Aside0.mk Q_BD
       have RN := Aside0.mk (Q_RN (hoff 20 (by kernel_rfl)))
       refine value_ (w1 := w') (v := .int .i64 (k : Int)) (by rfl) rfl ?_ ?_
       ·go_simp
        (try simp only [i64_w])
        try rfl
        try assumption
       refine hK.out _ _ ⟨ge, v1, m19_, m21_, (by rw [ha.out]; exact putSel_upk 3 hb_ rfl rfl rfl), Q_HB, Q_BD, Q_RN, fun h0_ _ => absurd ((hoff 19 (by kernel_rfl)).symm.trans h0_) (by decide), fun h0_ => absurd ((hoff 19 (by kernel_rfl)).symm.trans h0_) (by decide), fun h0_ => absurd ((hoff 20 (by kernel_rfl)).symm.trans h0_) (by decide), fun h0_ => absurd ((hoff 19 (by kernel_rfl)).symm.trans h0_) (by decide), fun h0_ => absurd ((hoff 21 (by kernel_rfl)).symm.trans h0_) (by decide)⟩
      refine steps_cons ?_ ?_
      ·rintro b a w' ⟨ge, v1, m19_, m21_, ha, Q_HB, Q_BD, Q_RN, Q_EB, Q_Lge, Q_RM, Q_X19_, Q_X21_⟩ hb_ hon hoff
       refine ⟨_, rfl, fun K hK => ?_⟩
       have e26 : a.tmps[26]? = some (.slice (some ad) ct.length c1) := by rw [ha]; exact putSel_on (e := (2, 26, .slice (some ad) ct.length c1)) 2 rfl rfl (hon 2 (by kernel_rfl)) rfl
       have e27 : a.tmps[27]? = some (.int .i64 (k : Int)) := by rw [ha]; exact putSel_on (e := (3, 27, .int .i64 (k : Int))) 3 rfl rfl (hon 3 (by kernel_rfl)) rfl
       replace ha := Aside0.mk ha
       have HB := Aside0.mk Q_HB
       have BD := Aside0.mk Q_BD
       have RN := Aside0.mk (Q_RN (hoff 20 (by kernel_rfl)))
       have y0 := BK0.out
       have y1 := BK1.out
       refine value_ (w1 := w') (v := .pointer (some (ad.add k))) (by rfl) rfl ?_ ?_
       ·go_simp
        (try simp only [i64_w])
        try rfl
        try assumption
       refine hK.out _ _ ⟨ge, v1, m19_, m21_, (by rw [ha.out]; exact putSel_upk 4 hb_ rfl rfl rfl), Q_HB, Q_BD, Q_RN, fun h0_ _ => absurd ((hoff 19 (by kernel_rfl)).symm.trans h0_) (by decide), fun h0_ => absurd ((hoff 19 (by kernel_rfl)).symm.trans h0_) (by decide), fun h0_ => absurd ((hoff 20 (by kernel_rfl)).symm.trans h0_) (by decide), fun h0_ => absurd ((hoff 19 (by kernel_rfl)).symm.trans h0_) (by decide), fun h0_ => absurd ((hoff 21 (by kernel_rfl)).symm.trans h0_) (by decide)⟩
      refine steps_cons ?_ ?_
      ·rintro b a w' ⟨ge, v1, m19_, m21_, ha, Q_HB, Q_BD, Q_RN, Q_EB, Q_Lge, Q_RM, Q_X19_, Q_X21_⟩ hb_ hon hoff
       refine ⟨_, rfl, fun K hK => ?_⟩
       have e28 : a.tmps[28]? = some (.pointer (some (ad.add k))) := by rw [ha]; exact putSel_on (e := (4, 28, .pointer (some (ad.add k)))) 4 rfl rfl (hon 4 (by kernel_rfl)) rfl
       replace ha := Aside0.mk ha
       have HB := Aside0.mk Q_HB
       have BD := Aside0.mk Q_BD
       have RN := Aside0.mk (Q_RN (hoff 20 (by kernel_rfl)))
       have z := (show w'.cell? (ad.add k) = some (.slice (some ae) q.length ci) from pw_cell_below HB.out P0.out)
       refine value_ (w1 := w') (v := .slice (some ae) q.length ci) (by rfl) rfl ?_ ?_
       ·go_simp
        (try simp only [i64_w])
        try rfl
        try assumption
       refine hK.out _ _ ⟨ge, v1, m19_, m21_, (by rw [ha.out]; exact putSel_upk 5 hb_ rfl rfl rfl), Q_HB, Q_BD, Q_RN, fun h0_ _ => absurd ((hoff 19 (by kernel_rfl)).symm.trans h0_) (by decide), fun h0_ => absurd ((hoff 19 (by kernel_rfl)).symm.trans h0_) (by decide), fun h0_ => absurd ((hoff 20 (by kernel_rfl)).symm.trans h0_) (by decide), fun h0_ => absurd ((hoff 19 (by kernel_rfl)).symm.trans h0_) (by decide), fun h0_ => absurd ((hoff 21 (by kernel_rfl)).symm.trans h0_) (by decide)⟩
      refine steps_cons ?_ ?_
      ·rintro b a w' ⟨ge, v1, m19_, m21_, ha, Q_HB, Q_BD, Q_RN, Q_EB, Q_Lge, Q_RM, Q_X19_, Q_X21_⟩ hb_ hon hoff
       refine ⟨_, rfl, fun K hK => ?_⟩
       have e5 : a.tmps[5]? = some (.int .i64 (j : Int)) := by rw [ha]; exact (putSel_off rfl).trans rfl
       replace ha := Aside0.mk ha
       have HB := Aside0.mk Q_HB
       have BD := Aside0.mk Q_BD
       have RN := Aside0.mk (Q_RN (hoff 20 (by kernel_rfl)))
       refine value_ (w1 := w') (v := .int .i64 (j : Int)) (by rfl) rfl ?_ ?_
       ·go_simp
        (try simp only [i64_w])
        try rfl
        try assumption
       refine hK.out _ _ ⟨ge, v1, m19_, m21_, (by rw [ha.out]; exact putSel_upk 6 hb_ rfl rfl rfl), Q_HB, Q_BD, Q_RN, fun h0_ _ => absurd ((hoff 19 (by kernel_rfl)).symm.trans h0_) (by decide), fun h0_ => absurd ((hoff 19 (by kernel_rfl)).symm.trans h0_) (by decide), fun h0_ => absurd ((hoff 20 (by kernel_rfl)).symm.trans h0_) (by decide), fun h0_ => absurd ((hoff 19 (by kernel_rfl)).symm.trans h0_) (by decide), fun h0_ => absurd ((hoff 21 (by kernel_rfl)).symm.trans h0_) (by decide)⟩
      refine steps_cons ?_ ?_
      ·rintro b a w' ⟨ge, v1, m19_, m21_, ha, Q_HB, Q_BD, Q_RN, Q_EB, Q_Lge, Q_RM, Q_X19_, Q_X21_⟩ hb_ hon hoff
       refine ⟨_, rfl, fun K hK => ?_⟩
       have e29 : a.tmps[29]? = some (.slice (some ae) q.length ci) := by rw [ha]; exact putSel_on (e := (5, 29, .slice (some ae) q.length ci)) 5 rfl rfl (hon 5 (by kernel_rfl)) rfl
       have e30 : a.tmps[30]? = some (.int .i64 (j : Int)) := by rw [ha]; exact putSel_on (e := (6, 30, .int .i64 (j : Int))) 6 rfl rfl (hon 6 (by kernel_rfl)) rfl
       replace ha := Aside0.mk ha
       have HB := Aside0.mk Q_HB
       have BD := Aside0.mk Q_BD
       have RN := Aside0.mk (Q_RN (hoff 20 (by kernel_rfl)))
       have y0 := BJ0.out
       have y1 := BJ1.out
       refine value_ (w1 := w') (v := .pointer (some (ae.add (j * 3)))) (by rfl) rfl ?_ ?_
       ·go_simp
        (try simp only [i64_w])
        try rfl
        try assumption
       refine hK.out _ _ ⟨ge, v1, m19_, m21_, (by rw [ha.out]; exact putSel_upk 7 hb_ rfl rfl rfl), Q_HB, Q_BD, Q_RN, fun h0_ _ => absurd ((hoff 19 (by kernel_rfl)).symm.trans h0_) (by decide), fun h0_ => absurd ((hoff 19 (by kernel_rfl)).symm.trans h0_) (by decide), fun h0_ => absurd ((hoff 20 (by kernel_rfl)).symm.trans h0_) (by decide), fun h0_ => absurd ((hoff 19 (by kernel_rfl)).symm.trans h0_) (by decide), fun h0_ => absurd ((hoff 21 (by kernel_rfl)).symm.trans h0_) (by decide)⟩
      refine steps_cons ?_ ?_
      ·rintro b a w' ⟨ge, v1, m19_, m21_, ha, Q_HB, Q_BD, Q_RN, Q_EB, Q_Lge, Q_RM, Q_X19_, Q_X21_⟩ hb_ hon hoff
       refine ⟨_, rfl, fun K hK => ?_⟩
       have e31 : a.tmps[31]? = some (.pointer (some (ae.add (j * 3)))) := by rw [ha]; exact putSel_on (e := (7, 31, .pointer (some (ae.add (j * 3))))) 7 rfl rfl (hon 7 (by kernel_rfl)) rfl
       replace ha := Aside0.mk ha
       have HB := Aside0.mk Q_HB
       have BD := Aside0.mk Q_BD
       have RN := Aside0.mk (Q_RN (hoff 20 (by kernel_rfl)))
       refine value_ (w1 := w') (v := .pointer (some (ae.add (j * 3)))) (by rfl) rfl ?_ ?_
       ·go_simp
        (try simp only [i64_w])
        try rfl
        try assumption
       refine hK.out _ _ ⟨ge, v1, m19_, m21_, (by rw [ha.out]; exact putSel_upk 8 hb_ rfl rfl rfl), Q_HB, Q_BD, Q_RN, fun h0_ _ => absurd ((hoff 19 (by kernel_rfl)).symm.trans h0_) (by decide), fun h0_ => absurd ((hoff 19 (by kernel_rfl)).symm.trans h0_) (by decide), fun h0_ => absurd ((hoff 20 (by kernel_rfl)).symm.trans h0_) (by decide), fun h0_ => absurd ((hoff 19 (by kernel_rfl)).symm.trans h0_) (by decide), fun h0_ => absurd ((hoff 21 (by kernel_rfl)).symm.trans h0_) (by decide)⟩
      refine steps_cons ?_ ?_
      ·rintro b a w' ⟨ge, v1, m19_, m21_, ha, Q_HB, Q_BD, Q_RN, Q_EB, Q_Lge, Q_RM, Q_X19_, Q_X21_⟩ hb_ hon hoff
       refine ⟨_, rfl, fun K hK => ?_⟩
       have e32 : a.tmps[32]? = some (.pointer (some (ae.add (j * 3)))) := by rw [ha]; exact putSel_on (e := (8, 32, .pointer (some (ae.add (j * 3))))) 8 rfl rfl (hon 8 (by kernel_rfl)) rfl
       replace ha := Aside0.mk ha
       have HB := Aside0.mk Q_HB
       have BD := Aside0.mk Q_BD
       have RN := Aside0.mk (Q_RN (hoff 20 (by kernel_rfl)))
       have z := (show w'.cell? (ae.add (j * 3)) = some (.int .i64 pa) from pw_cell_below HB.out PP0.out)
       refine value_ (w1 := w') (v := .int .i64 pa) (by rfl) rfl ?_ ?_
       ·go_simp
        (try simp only [i64_w])
        try rfl
        try assumption
       refine hK.out _ _ ⟨ge, v1, m19_, m21_, (by rw [ha.out]; exact putSel_upk 9 hb_ rfl rfl rfl), Q_HB, Q_BD, Q_RN, fun h0_ _ => absurd ((hoff 19 (by kernel_rfl)).symm.trans h0_) (by decide), fun h0_ => absurd ((hoff 19 (by kernel_rfl)).symm.trans h0_) (by decide), fun h0_ => absurd ((hoff 20 (by kernel_rfl)).symm.trans h0_) (by decide), fun h0_ => absurd ((hoff 19 (by kernel_rfl)).symm.trans h0_) (by decide), fun h0_ => absurd ((hoff 21 (by kernel_rfl)).symm.trans h0_) (by decide)⟩
      refine steps_cons ?_ ?_
      ·rintro b a w' ⟨ge, v1, m19_, m21_, ha, Q_HB, Q_BD, Q_RN, Q_EB, Q_Lge, Q_RM, Q_X19_, Q_X21_⟩ hb_ hon hoff
       refine ⟨_, rfl, fun K hK => ?_⟩
       have e1 : a.tmps[1]? = some (.pointer (some ⟨g1, 0, none⟩)) := by rw [ha]; exact (putSel_off rfl).trans rfl
       replace ha := Aside0.mk ha
       have HB := Aside0.mk Q_HB
       have BD := Aside0.mk Q_BD
       have RN := Aside0.mk (Q_RN (hoff 20 (by kernel_rfl)))
       refine value_ (w1 := w') (v := .pointer (some ⟨g1, 0, none⟩)) (by rfl) rfl ?_ ?_
       ·go_simp
        (try simp only [i64_w])
        try rfl
        try assumption
       refine hK.out _ _ ⟨ge, v1, m19_, m21_, (by rw [ha.out]; exact putSel_upk 10 hb_ rfl rfl rfl), Q_HB, Q_BD, Q_RN, fun h0_ _ => absurd ((hoff 19 (by kernel_rfl)).symm.trans h0_) (by decide), fun h0_ => absurd ((hoff 19 (by kernel_rfl)).symm.trans h0_) (by decide), fun h0_ => absurd ((hoff 20 (by kernel_rfl)).symm.trans h0_) (by decide), fun h0_ => absurd ((hoff 19 (by kernel_rfl)).symm.trans h0_) (by decide), fun h0_ => absurd ((hoff 21 (by kernel_rfl)).symm.trans h0_) (by decide)⟩
      refine steps_cons ?_ ?_
      ·rintro b a w' ⟨ge, v1, m19_, m21_, ha, Q_HB, Q_BD, Q_RN, Q_EB, Q_Lge, Q_RM, Q_X19_, Q_X21_⟩ hb_ hon hoff
       refine ⟨_, rfl, fun K hK => ?_⟩
       have e34 : a.tmps[34]? = some (.pointer (some ⟨g1, 0, none⟩)) := by rw [ha]; exact putSel_on (e := (10, 34, .pointer (some ⟨g1, 0, none⟩))) 10 rfl rfl (hon 10 (by kernel_rfl)) rfl
       replace ha := Aside0.mk ha
       have HB := Aside0.mk Q_HB
       have BD := Aside0.mk Q_BD
       have RN := Aside0.mk (Q_RN (hoff 20 (by kernel_rfl)))
       have z := BD.out.cell 0
       refine value_ (w1 := w') (v := .slice (some ad) ct.length c1) (by rfl) rfl ?_ ?_
       ·go_simp
        (try simp only [i64_w])
        try rfl
        try assumption
       refine hK.out _ _ ⟨ge, v1, m19_, m21_, (by rw [ha.out]; exact putSel_upk 11 hb_ rfl rfl rfl), Q_HB, Q_BD, Q_RN, fun h0_ _ => absurd ((hoff 19 (by kernel_rfl)).symm.trans h0_) (by decide), fun h0_ => absurd ((hoff 19 (by kernel_rfl)).symm.trans h0_) (by decide), fun h0_ => absurd ((hoff 20 (by kernel_rfl)).symm.trans h0_) (by decide), fun h0_ => absurd ((hoff 19 (by kernel_rfl)).symm.trans h0_) (by decide), fun h0_ => absurd ((hoff 21 (by kernel_rfl)).symm.trans h0_) (by decide)⟩
      refine steps_cons ?_ ?_
      ·rintro b a w' ⟨ge, v1, m19_, m21_, ha, Q_HB, Q_BD, Q_RN, Q_EB, Q_Lge, Q_RM, Q_X19_, Q_X21_⟩ hb_ hon hoff
       refine ⟨_, rfl, fun K hK => ?_⟩
       have e4 : a.tmps[4]? = some (.int .i64 (k : Int)) := by rw [ha]; exact (putSel_off rfl).trans rfl
       replace ha := Aside0.mk ha
       have HB := Aside0.mk Q_HB
       have BD := Aside0.mk Q_BD
       have RN := Aside0.mk (Q_RN (hoff 20 (by kernel_rfl)))
       refine value_ (w1 := w') (v := .int .i64 (k : Int)) (by rfl) rfl ?_ ?_
       ·go_simp
        (try simp only [i64_w])
        try rfl
        try assumption
       refine hK.out _ _ ⟨ge, v1, m19_, m21_, (by rw [ha.out]; exact putSel_upk 12 hb_ rfl rfl rfl), Q_HB, Q_BD, Q_RN, fun h0_ _ => absurd ((hoff 19 (by kernel_rfl)).symm.trans h0_) (by decide), fun h0_ => absurd ((hoff 19 (by kernel_rfl)).symm.trans h0_) (by decide), fun h0_ => absurd ((hoff 20 (by kernel_rfl)).symm.trans h0_) (by decide), fun h0_ => absurd ((hoff 19 (by kernel_rfl)).symm.trans h0_) (by decide), fun h0_ => absurd ((hoff 21 (by kernel_rfl)).symm.trans h0_) (by decide)⟩
      refine steps_cons ?_ ?_
      ·rintro b a w' ⟨ge, v1, m19_, m21_, ha, Q_HB, Q_BD, Q_RN, Q_EB, Q_Lge, Q_RM, Q_X19_, Q_X21_⟩ hb_ hon hoff
       refine ⟨_, rfl, fun K hK => ?_⟩
       have e35 : a.tmps[35]? = some (.slice (some ad) ct.length c1) := by rw [ha]; exact putSel_on (e := (11, 35, .slice (some ad) ct.length c1)) 11 rfl rfl (hon 11 (by kernel_rfl)) rfl
       have e36 : a.tmps[36]? = some (.int .i64 (k : Int)) := by rw [ha]; exact putSel_on (e := (12, 36, .int .i64 (k : Int))) 12 rfl rfl (hon 12 (by kernel_rfl)) rfl
       replace ha := Aside0.mk ha
       have HB := Aside0.mk Q_HB
       have BD := Aside0.mk Q_BD
       have RN := Aside0.mk (Q_RN (hoff 20 (by kernel_rfl)))
       have y0 := BK0.out
       have y1 := BK1.out
       refine value_ (w1 := w') (v := .pointer (some (ad.add k))) (by rfl) rfl ?_ ?_
       ·go_simp
        (try simp only [i64_w])
        try rfl
        try assumption
       refine hK.out _ _ ⟨ge, v1, m19_, m21_, (by rw [ha.out]; exact putSel_upk 13 hb_ rfl rfl rfl), Q_HB, Q_BD, Q_RN, fun h0_ _ => absurd ((hoff 19 (by kernel_rfl)).symm.trans h0_) (by decide), fun h0_ => absurd ((hoff 19 (by kernel_rfl)).symm.trans h0_) (by decide), fun h0_ => absurd ((hoff 20 (by kernel_rfl)).symm.trans h0_) (by decide), fun h0_ => absurd ((hoff 19 (by kernel_rfl)).symm.trans h0_) (by decide), fun h0_ => absurd ((hoff 21 (by kernel_rfl)).symm.trans h0_) (by decide)⟩
      refine steps_cons ?_ ?_
      ·rintro b a w' ⟨ge, v1, m19_, m21_, ha, Q_HB, Q_BD, Q_RN, Q_EB, Q_Lge, Q_RM, Q_X19_, Q_X21_⟩ hb_ hon hoff
       refine ⟨_, rfl, fun K hK => ?_⟩
       have e37 : a.tmps[37]? = some (.pointer (some (ad.add k))) := by rw [ha]; exact putSel_on (e := (13, 37, .pointer (some (ad.add k)))) 13 rfl rfl (hon 13 (by kernel_rfl)) rfl
       replace ha := Aside0.mk ha
       have HB := Aside0.mk Q_HB
       have BD := Aside0.mk Q_BD
       have RN := Aside0.mk (Q_RN (hoff 20 (by kernel_rfl)))
       have z := (show w'.cell? (ad.add k) = some (.slice (some ae) q.length ci) from pw_cell_below HB.out P0.out)
       refine value_ (w1 := w') (v := .slice (some ae) q.length ci) (by rfl) rfl ?_ ?_
       ·go_simp
        (try simp only [i64_w])
        try rfl
        try assumption
       refine hK.out _ _ ⟨ge, v1, m19_, m21_, (by rw [ha.out]; exact putSel_upk 14 hb_ rfl rfl rfl), Q_HB, Q_BD, Q_RN, fun h0_ _ => absurd ((hoff 19 (by kernel_rfl)).symm.trans h0_) (by decide), fun h0_ => absurd ((hoff 19 (by kernel_rfl)).symm.trans h0_) (by decide), fun h0_ => absurd ((hoff 20 (by kernel_rfl)).symm.trans h0_) (by decide), fun h0_ => absurd ((hoff 19 (by kernel_rfl)).symm.trans h0_) (by decide), fun h0_ => absurd ((hoff 21 (by kernel_rfl)).symm.trans h0_) (by decide)⟩
      refine steps_cons ?_ ?_
      ·rintro b a w' ⟨ge, v1, m19_, m21_, ha, Q_HB, Q_BD, Q_RN, Q_EB, Q_Lge, Q_RM, Q_X19_, Q_X21_⟩ hb_ hon hoff
       refine ⟨_, rfl, fun K hK => ?_⟩
       have e5 : a.tmps[5]? = some (.int .i64 (j : Int)) := by rw [ha]; exact (putSel_off rfl).trans rfl
       replace ha := Aside0.mk ha
       have HB := Aside0.mk Q_HB
       have BD := Aside0.mk Q_BD
       have RN := Aside0.mk (Q_RN (hoff 20 (by kernel_rfl)))
       refine value_ (w1 := w') (v := .int .i64 (j : Int)) (by rfl) rfl ?_ ?_
       ·go_simp
        (try simp only [i64_w])
        try rfl
        try assumption
       refine hK.out _ _ ⟨ge, v1, m19_, m21_, (by rw [ha.out]; exact putSel_upk 15 hb_ rfl rfl rfl), Q_HB, Q_BD, Q_RN, fun h0_ _ => absurd ((hoff 19 (by kernel_rfl)).symm.trans h0_) (by decide), fun h0_ => absurd ((hoff 19 (by kernel_rfl)).symm.trans h0_) (by decide), fun h0_ => absurd ((hoff 20 (by kernel_rfl)).symm.trans h0_) (by decide), fun h0_ => absurd ((hoff 19 (by kernel_rfl)).symm.trans h0_) (by decide), fun h0_ => absurd ((hoff 21 (by kernel_rfl)).symm.trans h0_) (by decide)⟩
      refine steps_cons ?_ ?_
      ·rintro b a w' ⟨ge, v1, m19_, m21_, ha, Q_HB, Q_BD, Q_RN, Q_EB, Q_Lge, Q_RM, Q_X19_, Q_X21_⟩ hb_ hon hoff
       refine ⟨_, rfl, fun K hK => ?_⟩
       have e38 : a.tmps[38]? = some (.slice (some ae) q.length ci) := by rw [ha]; exact putSel_on (e := (14, 38, .slice (some ae) q.length ci)) 14 rfl rfl (hon 14 (by kernel_rfl)) rfl
       have e39 : a.tmps[39]? = some (.int .i64 (j : Int)) := by rw [ha]; exact putSel_on (e := (15, 39, .int .i64 (j : Int))) 15 rfl rfl (hon 15 (by kernel_rfl)) rfl
       replace ha := Aside0.mk ha
       have HB := Aside0.mk Q_HB
       have BD := Aside0.mk Q_BD
       have RN := Aside0.mk (Q_RN (hoff 20 (by kernel_rfl)))
       have y0 := BJ0.out
       have y1 := BJ1.out
       refine value_ (w1 := w') (v := .pointer (some (ae.add (j * 3)))) (by rfl) rfl ?_ ?_
       ·go_simp
        (try simp only [i64_w])
        try rfl
        try assumption
       refine hK.out _ _ ⟨ge, v1, m19_, m21_, (by rw [ha.out]; exact putSel_upk 16 hb_ rfl rfl rfl), Q_HB, Q_BD, Q_RN, fun h0_ _ => absurd ((hoff 19 (by kernel_rfl)).symm.trans h0_) (by decide), fun h0_ => absurd ((hoff 19 (by kernel_rfl)).symm.trans h0_) (by decide), fun h0_ => absurd ((hoff 20 (by kernel_rfl)).symm.trans h0_) (by decide), fun h0_ => absurd ((hoff 19 (by kernel_rfl)).symm.trans h0_) (by decide), fun h0_ => absurd ((hoff 21 (by kernel_rfl)).symm.trans h0_) (by decide)⟩
      refine steps_cons ?_ ?_
      ·rintro b a w' ⟨ge, v1, m19_, m21_, ha, Q_HB, Q_BD, Q_RN, Q_EB, Q_Lge, Q_RM, Q_X19_, Q_X21_⟩ hb_ hon hoff
       refine ⟨_, rfl, fun K hK => ?_⟩
       have e40 : a.tmps[40]? = some (.pointer (some (ae.add (j * 3)))) := by rw [ha]; exact putSel_on (e := (16, 40, .pointer (some (ae.add (j * 3))))) 16 rfl rfl (hon 16 (by kernel_rfl)) rfl
       replace ha := Aside0.mk ha
       have HB := Aside0.mk Q_HB
       have BD := Aside0.mk Q_BD
       have RN := Aside0.mk (Q_RN (hoff 20 (by kernel_rfl)))
       refine value_ (w1 := w') (v := .pointer (some (⟨(ae.add (j * 3)).block, (ae.add (j * 3)).off + 1, none⟩))) (by rfl) rfl ?_ ?_
       ·go_simp
        (try simp only [i64_w])
        try rfl
        try assumption
       refine hK.out _ _ ⟨ge, v1, m19_, m21_, (by rw [ha.out]; exact putSel_upk 17 hb_ rfl rfl rfl), Q_HB, Q_BD, Q_RN, fun h0_ _ => absurd ((hoff 19 (by kernel_rfl)).symm.trans h0_) (by decide), fun h0_ => absurd ((hoff 19 (by kernel_rfl)).symm.trans h0_) (by decide), fun h0_ => absurd ((hoff 20 (by kernel_rfl)).symm.trans h0_) (by decide), fun h0_ => absurd ((hoff 19 (by kernel_rfl)).symm.trans h0_) (by decide), fun h0_ => absurd ((hoff 21 (by kernel_rfl)).symm.trans h0_) (by decide)⟩
      refine steps_cons ?_ ?_
      ·rintro b a w' ⟨ge, v1, m19_, m21_, ha, Q_HB, Q_BD, Q_RN, Q_EB, Q_Lge, Q_RM, Q_X19_, Q_X21_⟩ hb_ hon hoff
       refine ⟨_, rfl, fun K hK => ?_⟩
       have e41 : a.tmps[41]? = some (.pointer (some (⟨(ae.add (j * 3)).block, (ae.add (j * 3)).off + 1, none⟩))) := by rw [ha]; exact putSel_on (e := (17, 41, .pointer (some (⟨(ae.add (j * 3)).block, (ae.add (j * 3)).off + 1, none⟩)))) 17 rfl rfl (hon 17 (by kernel_rfl)) rfl
       replace ha := Aside0.mk ha
       have HB := Aside0.mk Q_HB
       have BD := Aside0.mk Q_BD
       have RN := Aside0.mk (Q_RN (hoff 20 (by kernel_rfl)))
       have z := (show w'.cell? (⟨(ae.add (j * 3)).block, (ae.add (j * 3)).off + 1, none⟩) = some (.int .i64 pb) from pw_cell_below HB.out PP1.out)
       refine value_ (w1 := w') (v := .int .i64 pb) (by rfl) rfl ?_ ?_
       ·go_simp
        (try simp only [i64_w])
        try rfl
        try assumption
       refine hK.out _ _ ⟨ge, v1, m19_, m21_, (by rw [ha.out]; exact putSel_upk 18 hb_ rfl rfl rfl), Q_HB, Q_BD, Q_RN, fun h0_ _ => absurd ((hoff 19 (by kernel_rfl)).symm.trans h0_) (by decide), fun h0_ => absurd ((hoff 19 (by kernel_rfl)).symm.trans h0_) (by decide), fun h0_ => absurd ((hoff 20 (by kernel_rfl)).symm.trans h0_) (by decide), fun h0_ => absurd ((hoff 19 (by kernel_rfl)).symm.trans h0_) (by decide), fun h0_ => absurd ((hoff 21 (by kernel_rfl)).symm.trans h0_) (by decide)⟩
      refine steps_cons ?_ ?_
      ·rintro b a w' ⟨ge, v1, m19_, m21_, ha, Q_HB, Q_BD, Q_RN, Q_EB, Q_Lge, Q_RM, Q_X19_, Q_X21_⟩ hb_ hon hoff
       refine ⟨_, rfl, fun K hK => ?_⟩
       have e33 : a.tmps[33]? = some (.int .i64 pa) := by rw [ha]; exact putSel_on (e := (9, 33, .int .i64 pa)) 9 rfl rfl (hon 9 (by kernel_rfl)) rfl
       have e42 : a.tmps[42]? = some (.int .i64 pb) := by rw [ha]; exact putSel_on (e := (18, 42, .int .i64 pb)) 18 rfl rfl (hon 18 (by kernel_rfl)) rfl
       replace ha := Aside0.mk ha
       have HB := Aside0.mk Q_HB
       have BD := Aside0.mk Q_BD
       have RN := Aside0.mk (Q_RN (hoff 20 (by kernel_rfl)))
       refine value_ (w1 := w'.alloc (.cells #[.int .i64 pa, .int .i64 pb] 3)) (v := .slice (some ⟨w'.heap.size, 0, none⟩) 2 2) (by rfl) rfl ?_ ?_
       ·go_simp
       refine hK.out _ _ ⟨w'.heap.size, v1, (.slice (some ⟨w'.heap.size, 0, none⟩) 2 2), m21_, (by rw [ha.out]; exact putSel_upk 19 hb_ rfl rfl rfl), bthen' HB.out (below_alloc (Below.refl _ w') _), BD.out.alloc _, fun _ => Kd.R_below RN.out (below_alloc (Below.refl _ w') _), fun _ _ => Blk.new w' _ _ rfl, fun _ => HB.out.size, fun h0_ => absurd ((hoff 20 (by kernel_rfl)).symm.trans h0_) (by decide), fun _ => rfl, fun h0_ => absurd ((hoff 21 (by kernel_rfl)).symm.trans h0_) (by decide)⟩
      refine steps_cons ?_ ?_
      ·rintro b a w' ⟨ge, v1, m19_, m21_, ha, Q_HB, Q_BD, Q_RN, Q_EB, Q_Lge, Q_RM, Q_X19_, Q_X21_⟩ hb_ hon hoff
       refine ⟨_, rfl, fun K hK => ?_⟩
       have e24 : a.tmps[24]? = some (.slice Av xs.length cw) := by rw [ha]; exact putSel_on (e := (0, 24, .slice Av xs.length cw)) 0 rfl rfl (hon 0 (by kernel_rfl)) rfl
       have e43 : a.tmps[43]? = some (m19_) := by rw [ha]; exact putSel_on (e := (19, 43, m19_)) 19 rfl rfl (hon 19 (by kernel_rfl)) rfl
       rw [Q_X19_ (hon 19 (by kernel_rfl))] at e43
       replace ha := Aside0.mk ha
       have HB := Aside0.mk Q_HB
       have BD := Aside0.mk Q_BD
       have RN := Aside0.mk (Q_RN hb_)
       have EB := Aside0.mk (Q_EB (hon 19 (by kernel_rfl)) hb_)
       have Lge := Aside0.mk (Q_Lge (hon 19 (by kernel_rfl)))
       obtain ⟨vv, w2, hr, o1, o2, o3⟩ := append_ints RN.out HB.out HB.out.size ge [pa, pb] EB.out (by have := HLX.out; simp only [List.length_cons, List.length_nil]; omega)
       refine value_ (w1 := w2) (v := vv) (by rfl) rfl ?_ ?_
       ·exact run_append_opU (by rfl) e24 e43 hr
       refine hK.out _ _ ⟨ge, vv, m19_, m21_, (by rw [ha.out]; exact putSel_upk 20 hb_ rfl rfl rfl), o2, (o3.block g1 BD.out.lt (Kd.R_ne RN.out BD.out (by decide))).trans BD.out, fun h0_ => absurd ((up_self b 20).symm.trans h0_) (by decide), fun _ h1_ => absurd ((up_self b 20).symm.trans h1_) (by decide), Q_Lge, fun _ => o1, Q_X19_, fun h0_ => absurd ((hoff 21 (by kernel_rfl)).symm.trans h0_) (by decide)⟩
      refine steps_cons ?_ ?_
      ·rintro b a w' ⟨ge, v1, m19_, m21_, ha, Q_HB, Q_BD, Q_RN, Q_EB, Q_Lge, Q_RM, Q_X19_, Q_X21_⟩ hb_ hon hoff
       refine ⟨_, rfl, fun K hK => ?_⟩
       have e44 : a.tmps[44]? = some (v1) := by rw [ha]; exact putSel_on (e := (20, 44, v1)) 20 rfl rfl (hon 20 (by kernel_rfl)) rfl
       replace ha := Aside0.mk ha
       have HB := Aside0.mk Q_HB
       have BD := Aside0.mk Q_BD
       have Lge := Aside0.mk (Q_Lge (hon 19 (by kernel_rfl)))
       have RM := Aside0.mk (Q_RM (hon 20 (by kernel_rfl)))
       refine value_ (w1 := w') (v := v1) (by rfl) rfl ?_ ?_
       ·go_simp
        (try simp only [i64_w])
        try rfl
        try assumption
       refine hK.out _ _ ⟨ge, v1, m19_, (v1), (by rw [ha.out]; exact putSel_upk 21 hb_ rfl rfl rfl), Q_HB, Q_BD, fun h0_ => absurd ((hon 20 (by kernel_rfl)).symm.trans h0_) (by decide), fun _ h1_ => absurd ((hon 20 (by kernel_rfl)).symm.trans h1_) (by decide), Q_Lge, Q_RM, Q_X19_, fun _ => rfl⟩
      exact steps_nil
     ·rintro b a w' hall ⟨ge, v1, m19_, m21_, ha, Q_HB, Q_BD, Q_RN, Q_EB, Q_Lge, Q_RM, Q_X19_, Q_X21_⟩
      clear BD HB RN
      have hb0_ := hall 0 (by kernel_rfl)
      have hb1_ := hall 1 (by kernel_rfl)
      have hb2_ := hall 2 (by kernel_rfl)
      have hb3_ := hall 3 (by kernel_rfl)
      have hb4_ := hall 4 (by kernel_rfl)
      have hb5_ := hall 5 (by kernel_rfl)
      have hb6_ := hall 6 (by kernel_rfl)
      have hb7_ := hall 7 (by kernel_rfl)
      have hb8_ := hall 8 (by kernel_rfl)
      have hb9_ := hall 9 (by kernel_rfl)
      have hb10_ := hall 10 (by kernel_rfl)
      have hb11_ := hall 11 (by kernel_rfl)
      have hb12_ := hall 12 (by kernel_rfl)
      have hb13_ := hall 13 (by kernel_rfl)
      have hb14_ := hall 14 (by kernel_rfl)
      have hb15_ := hall 15 (by kernel_rfl)
      have hb16_ := hall 16 (by kernel_rfl)
      have hb17_ := hall 17 (by kernel_rfl)
      have hb18_ := hall 18 (by kernel_rfl)
      have hb19_ := hall 19 (by kernel_rfl)
      have hb20_ := hall 20 (by kernel_rfl)
      have hb21_ := hall 21 (by kernel_rfl)
      subst ha
      obtain rfl := Q_X19_ hb19_
      obtain rfl := Q_X21_ hb21_
      simp only [putSel, hb0_, hb1_, hb2_, hb3_, hb4_, hb5_, hb6_, hb7_, hb8_, hb9_, hb10_, hb11_, hb12_, hb13_, hb14_, hb15_, hb16_, hb17_, hb18_, hb19_, hb20_, hb21_, if_true, Act.put, List.setIfInBounds_toArray, List.set_cons_zero, List.set_cons_succ]
      have HB := Aside0.mk Q_HB
      clear Q_HB
      have BD := Aside0.mk Q_BD
      clear Q_BD
      clear Q_RN
      clear Q_EB
      have Lge := Aside0.mk (Q_Lge hb19_)
      clear Q_Lge
      have RM := Aside0.mk (Q_RM hb20_)
      clear Q_RM
      clear hall hb0_ hb1_ hb2_ hb3_ hb4_ hb5_ hb6_ hb7_ hb8_ hb9_ hb10_ hb11_ hb12_ hb13_ hb14_ hb15_ hb16_ hb17_ hb18_ hb19_ hb20_ hb21_
      generalize w' = W5 at *
      have H1 := Lib.hid BD.out
      have H2 := Lib.hid RM.out
      have H3 := Lib.hid HB.out
      clear HB BD RM
      go_wp2_with fail
      exact ⟨⟨j + 1, by go_num, by have := HJL.out; omega, H1, Lib.hid (by rw [HTJ.out, numP_snoc, ← List.append_assoc, hxs]; exact H2.out), H3⟩, by have := HJL.out; simp [intOf]; omega⟩
    ·have e1 : decide (j < q.length) = false := decide_eq_false hjl
     have e2 : decide ((j : Int) < (q.length : Int)) = false := decide_eq_false (by omega)
     obtain rfl : j = q.length := by omega
     have bk0 := BK0.out
     have bk1 := BK1.out
     have c0 := BD_.out.cell 0
     simp only [List.getElem?_toArray, List.getElem?_cons_zero, List.getElem?_cons_succ] at c0
     go_wp2_with fail
     exact ⟨⟨k + 1, by go_num, by have := HKL.out; omega, BD_, Lib.hid (by rw [HTK.out, numC_snoc]; have h := HR.out; rw [List.take_length] at h; exact h), HWW⟩, by have := HKL.out; simp [intOf]; omega⟩
  ·have d1 : decide (k < ct.length) = false := decide_eq_false hlt
   have d2 : decide ((k : Int) < (ct.length : Int)) = false := decide_eq_false (by omega)
   obtain rfl : k = ct.length := by omega
   have c0 := BD_.out.cell 0
   simp only [List.getElem?_toArray, List.getElem?_cons_zero, List.getElem?_cons_succ] at c0
   go_wp2_with fail
   clear c0 d1 d2 hlt hk
   have HR0 := Lib.hid (show Kd.R kI 3 wr w.heap.size (fun _ => True) _ (numC ct) by have h := HR.out; rw [List.take_length] at h; exact h)
   clear HR
   generalize wr = wo at *
   go_loopw [3, 6] (fun s i wr => ∃ (k : Nat), i = .int .i64 (k : Int) ∧ k ≤ an.length ∧ Hid (Blk wr g1 #[.slice A1 ct.length c1, .slice A2 an.length c2, .int .i64 xa, .int .i64 xb, .int .i64 xc, .int .i64 av] 51) ∧ Hid (Kd.R kI 3 wr w.heap.size (fun _ => True) s (numC ct ++ numA (an.take k))) ∧ Hid (Below w.heap.size w wr)) (fun _ i _ => an.length - (intOf i).toNat)
   case atStart => exact ⟨0, rfl, Nat.zero_le _, BD_, Lib.hid (by rw [show an.take 0 = [] from rfl, show numA [] = [] from rfl, List.append_nil]; exact HR0.out), HWW⟩
   case round =>
    clear BD_ HR0 HWW
    obtain ⟨k, rfl, hk, BD_, HR, HWW⟩ := hrel
    by_cases hlt : k < an.length
    ·have HLX := Lib.hid (show (numC ct ++ numA (an.take k)).length ≤ 5000000 by rw [List.length_append, numC_len, numA_len, List.length_take]; have := HPN.out; have := HAL.out; omega)
     generalize hxs : numC ct ++ numA (an.take k) = xs at *
     obtain ⟨Av, cw, rfl⟩ := Kd.R_slice HR.out
     have d1 : decide (k < an.length) = true := decide_eq_true hlt
     have d2 : decide ((k : Int) < (an.length : Int)) = true := decide_eq_true (by omega)
     have HKL := Lib.hid hlt
     have hk6 : k < 1000000 := by have := HAL.out; omega
     have HTK := Lib.hid (take_at an k hlt zI3)
     obtain ⟨ad, a0, a1, a2, hA3, hK3, p0, p1, p2⟩ := el3 (d := kI3) rfl HA.out zI3 k hlt
     subst hA3
     have hcs := kI3_open hK3
     simp only [List.cons.injEq, and_true] at hcs
     obtain ⟨rfl, rfl, rfl⟩ := hcs
     generalize an.getD k zI3 = pp at *
     obtain ⟨pz, pa, pb⟩ := pp
     dsimp only at p1 p2
     have PP1 := Lib.hid p1
     have PP2 := Lib.hid p2
     clear p0 p1 p2 hK3 hk hlt
     have BK0 := Lib.hid (show (0 : Int) ≤ (k : Int) by omega)
     have BK1 := Lib.hid (show (k : Int) < (an.length : Int) by have := HKL.out; omega)
     have c1 := BD_.out.cell 1
     simp only [List.getElem?_toArray, List.getElem?_cons_zero, List.getElem?_cons_succ] at c1
     go_upto_region 12 with fail
     clear c1 d1 d2
     refine start_ (n := 16) (S := fun w' => True) (ds := []) #[false, false, false, false, false, false, false, false, false, false, false, false, false, false, false, false] (by kernel_rfl) rfl rfl trivial (fun hHeld => ?_)
     refine with_tabW oNu12.tab12 oNu12.bits12 (fun HT_ HW_ => ?_)
     have HB : Aside0 (Below w.heap.size w wr.drew) := ⟨bdrew HWW.out⟩
     have BD : Aside0 (Blk wr.drew g1 #[.slice A1 ct.length c1, .slice (some ad) an.length c2, .int .i64 xa, .int .i64 xb, .int .i64 xc, .int .i64 av] 51) := ⟨BD_.out.drew⟩
     have RN : Aside0 (Kd.R kI 3 wr.drew w.heap.size (fun _ => True) (.slice Av xs.length cw) xs) := ⟨Kd.R_below HR.out (below_drew (Below.refl _ _))⟩
     generalize hwd : wr.drew = w1' at *
     clear hwd
     refine inv_at [0, 1, 2, 3, 4, 5, 6, 7, 8, 9, 10, 11, 12, 13, 14, 15] (fun a0_ b a w' => ∃ (ge : Nat) (v1 : Value) (m13_ : Value) (m15_ : Value), a = putSel a0_ b [(0, 52, .slice Av xs.length cw), (1, 53, .pointer (some ⟨g1, 1, none⟩)), (2, 54, .slice (some ad) an.length c2), (3, 55, .int .i64 (k : Int)), (4, 56, .pointer (some (ad.add (k * 3)))), (5, 57, .pointer (some (⟨(ad.add (k * 3)).block, (ad.add (k * 3)).off + 1, none⟩))), (6, 58, .int .i64 pa), (7, 59, .pointer (some ⟨g1, 1, none⟩)), (8, 60, .slice (some ad) an.length c2), (9, 61, .int .i64 (k : Int)), (10, 62, .pointer (some (ad.add (k * 3)))), (11, 63, .pointer (some (⟨(ad.add (k * 3)).block, (ad.add (k * 3)).off + 2, none⟩))), (12, 64, .int .i64 pb), (13, 65, m13_), (14, 66, v1), (15, 3, m15_)] ∧ (Below w.heap.size w w') ∧ (Blk w' g1 #[.slice A1 ct.length c1, .slice (some ad) an.length c2, .int .i64 xa, .int .i64 xb, .int .i64 xc, .int .i64 av] 51) ∧ (b 14 = false → Kd.R kI 3 w' w.heap.size (fun _ => True) (.slice Av xs.length cw) xs) ∧ (b 13 = true → b 14 = false → Blk w' ge #[.int .i64 pa, .int .i64 pb] 3) ∧ (b 13 = true → w.heap.size ≤ ge) ∧ (b 14 = true → Kd.R kI 3 w' w.heap.size (fun _ => True) v1 (xs ++ [pa, pb])) ∧ (b 13 = true → (m13_ : Value) = .slice (some ⟨ge, 0, none⟩) 2 2) ∧ (b 15 = true → (m15_ : Value) = v1)) HT_.out HW_.out (by kernel_rfl) (by kernel_rfl) ?_ ?_ ?_
     ·exact ⟨0, undef, .bool false, .bool false, by simp only [putSel, Bool.false_eq_true, if_false], HB.out, BD.out, fun _ => RN.out, fun h_ => absurd h_ (by decide), fun h_ => absurd h_ (by decide), fun h_ => absurd h_ (by decide), fun h_ => absurd h_ (by decide), fun h_ => absurd h_ (by decide)⟩
     ·skip
      clear BD HB RN
      refine steps_cons ?_ ?_
      ·rintro b a w' ⟨ge, v1, m13_, m15_, ha, Q_HB, Q_BD, Q_RN, Q_EB, Q_Lge, Q_RM, Q_X13_, Q_X15_⟩ hb_ hon hoff
       refine ⟨_, rfl, fun K hK => ?_⟩
       have e3 : a.tmps[3]? = some (.slice Av xs.length cw) := by rw [ha]; exact (putSel_not (hoff 15 (by kernel_rfl)) rfl).trans rfl
       replace ha := Aside0.mk ha
       have HB := Aside0.mk Q_HB
       have BD := Aside0.mk Q_BD
       have RN := Aside0.mk (Q_RN (hoff 14 (by kernel_rfl)))
       refine value_ (w1 := w') (v := .slice Av xs.length cw) (by rfl) rfl ?_ ?_
       ·go_simp
        (try simp only [i64_w])
        try rfl
        try assumption
       refine hK.out _ _ ⟨ge, v1, m13_, m15_, (by rw [ha.out]; exact putSel_upk 0 hb_ rfl rfl rfl), Q_HB, Q_BD, Q_RN, Q_EB, Q_Lge, fun h0_ => absurd ((hoff 14 (by kernel_rfl)).symm.trans h0_) (by decide), Q_X13_, fun h0_ => absurd ((hoff 15 (by kernel_rfl)).symm.trans h0_) (by decide)⟩
      refine steps_cons ?_ ?_
      ·rintro b a w' ⟨ge, v1, m13_, m15_, ha, Q_HB, Q_BD, Q_RN, Q_EB, Q_Lge, Q_RM, Q_X13_, Q_X15_⟩ hb_ hon hoff
       refine ⟨_, rfl, fun K hK => ?_⟩
       have e1 : a.tmps[1]? = some (.pointer (some ⟨g1, 0, none⟩)) := by rw [ha]; exact (putSel_off rfl).trans rfl
       replace ha := Aside0.mk ha
       have HB := Aside0.mk Q_HB
       have BD := Aside0.mk Q_BD
       have RN := Aside0.mk (Q_RN (hoff 14 (by kernel_rfl)))
       refine value_ (w1 := w') (v := .pointer (some ⟨g1, 1, none⟩)) (by rfl) rfl ?_ ?_
       ·go_simp
        (try simp only [i64_w])
        try rfl
        try assumption
       refine hK.out _ _ ⟨ge, v1, m13_, m15_, (by rw [ha.out]; exact putSel_upk 1 hb_ rfl rfl rfl), Q_HB, Q_BD, Q_RN, fun h0_ _ => absurd ((hoff 13 (by kernel_rfl)).symm.trans h0_) (by decide), fun h0_ => absurd ((hoff 13 (by kernel_rfl)).symm.trans h0_) (by decide), fun h0_ => absurd ((hoff 14 (by kernel_rfl)).symm.trans h0_) (by decide), fun h0_ => absurd ((hoff 13 (by kernel_rfl)).symm.trans h0_) (by decide), fun h0_ => absurd ((hoff 15 (by kernel_rfl)).symm.trans h0_) (by decide)⟩
      refine steps_cons ?_ ?_
      ·rintro b a w' ⟨ge, v1, m13_, m15_, ha, Q_HB, Q_BD, Q_RN, Q_EB, Q_Lge, Q_RM, Q_X13_, Q_X15_⟩ hb_ hon hoff
       refine ⟨_, rfl, fun K hK => ?_⟩
       have e53 : a.tmps[53]? = some (.pointer (some ⟨g1, 1, none⟩)) := by rw [ha]; exact putSel_on (e := (1, 53, .pointer (some ⟨g1, 1, none⟩))) 1 rfl rfl (hon 1 (by kernel_rfl)) rfl
       replace ha := Aside0.mk ha
       have HB := Aside0.mk Q_HB
       have BD := Aside0.mk Q_BD
       have RN := Aside0.mk (Q_RN (hoff 14 (by kernel_rfl)))
       have z := BD.out.cell 1
       refine value_ (w1 := w') (v := .slice (some ad) an.length c2) (by rfl) rfl ?_ ?_
       ·go_simp
        (try simp only [i64_w])
        try rfl
        try assumption
       refine hK.out _ _ ⟨ge, v1, m13_, m15_, (by rw [ha.out]; exact putSel_upk 2 hb_ rfl rfl rfl), Q_HB, Q_BD, Q_RN, fun h0_ _ => absurd ((hoff 13 (by kernel_rfl)).symm.trans h0_) (by decide), fun h0_ => absurd ((hoff 13 (by kernel_rfl)).symm.trans h0_) (by decide), fun h0_ => absurd ((hoff 14 (by kernel_rfl)).symm.trans h0_) (by decide), fun h0_ => absurd ((hoff 13 (by kernel_rfl)).symm.trans h0_) (by decide), fun h0_ => absurd ((hoff 15 (by kernel_rfl)).symm.trans h0_) (by decide)⟩
      refine steps_cons ?_ ?_
      ·rintro b a w' ⟨ge, v1, m13_, m15_, ha, Q_HB, Q_BD, Q_RN, Q_EB, Q_Lge, Q_RM, Q_X13_, Q_X15_⟩ hb_ hon hoff
       refine ⟨_, rfl, fun K hK => ?_⟩
       have e6 : a.tmps[6]? = some (.int .i64 (k : Int)) := by rw [ha]; exact (putSel_off rfl).trans rfl
       replace ha := Aside0.mk ha
       have HB := Aside0.mk Q_HB
       have BD := Aside0.mk Q_BD
       have RN := Aside0.mk (Q_RN (hoff 14 (by kernel_rfl)))
       refine value_ (w1 := w') (v := .int .i64 (k : Int)) (by rfl) rfl ?_ ?_
       ·go_simp
        (try simp only [i64_w])
        try rfl
        try assumption
       refine hK.out _ _ ⟨ge, v1, m13_, m15_, (by rw [ha.out]; exact putSel_upk 3 hb_ rfl rfl rfl), Q_HB, Q_BD, Q_RN, fun h0_ _ => absurd ((hoff 13 (by kernel_rfl)).symm.trans h0_) (by decide), fun h0_ => absurd ((hoff 13 (by kernel_rfl)).symm.trans h0_) (by decide), fun h0_ => absurd ((hoff 14 (by kernel_rfl)).symm.trans h0_) (by decide), fun h0_ => absurd ((hoff 13 (by kernel_rfl)).symm.trans h0_) (by decide), fun h0_ => absurd ((hoff 15 (by kernel_rfl)).symm.trans h0_) (by decide)⟩
      refine steps_cons ?_ ?_
      ·rintro b a w' ⟨ge, v1, m13_, m15_, ha, Q_HB, Q_BD, Q_RN, Q_EB, Q_Lge, Q_RM, Q_X13_, Q_X15_⟩ hb_ hon hoff
       refine ⟨_, rfl, fun K hK => ?_⟩
       have e54 : a.tmps[54]? = some (.slice (some ad) an.length c2) := by rw [ha]; exact putSel_on (e := (2, 54, .slice (some ad) an.length c2)) 2 rfl rfl (hon 2 (by kernel_rfl)) rfl
       have e55 : a.tmps[55]? = some (.int .i64 (k : Int)) := by rw [ha]; exact putSel_on (e := (3, 55, .int .i64 (k : Int))) 3 rfl rfl (hon 3 (by kernel_rfl)) rfl
       replace ha := Aside0.mk ha
       have HB := Aside0.mk Q_HB
       have BD := Aside0.mk Q_BD
       have RN := Aside0.mk (Q_RN (hoff 14 (by kernel_rfl)))
       have y0 := BK0.out
       have y1 := BK1.out
       refine value_ (w1 := w') (v := .pointer (some (ad.add (k * 3)))) (by rfl) rfl ?_ ?_
       ·go_simp
        (try simp only [i64_w])
        try rfl
        try assumption
       refine hK.out _ _ ⟨ge, v1, m13_, m15_, (by rw [ha.out]; exact putSel_upk 4 hb_ rfl rfl rfl), Q_HB, Q_BD, Q_RN, fun h0_ _ => absurd ((hoff 13 (by kernel_rfl)).symm.trans h0_) (by decide), fun h0_ => absurd ((hoff 13 (by kernel_rfl)).symm.trans h0_) (by decide), fun h0_ => absurd ((hoff 14 (by kernel_rfl)).symm.trans h0_) (by decide), fun h0_ => absurd ((hoff 13 (by kernel_rfl)).symm.trans h0_) (by decide), fun h0_ => absurd ((hoff 15 (by kernel_rfl)).symm.trans h0_) (by decide)⟩
      refine steps_cons ?_ ?_
      ·rintro b a w' ⟨ge, v1, m13_, m15_, ha, Q_HB, Q_BD, Q_RN, Q_EB, Q_Lge, Q_RM, Q_X13_, Q_X15_⟩ hb_ hon hoff
       refine ⟨_, rfl, fun K hK => ?_⟩
       have e56 : a.tmps[56]? = some (.pointer (some (ad.add (k * 3)))) := by rw [ha]; exact putSel_on (e := (4, 56, .pointer (some (ad.add (k * 3))))) 4 rfl rfl (hon 4 (by kernel_rfl)) rfl
       replace ha := Aside0.mk ha
       have HB := Aside0.mk Q_HB
       have BD := Aside0.mk Q_BD
       have RN := Aside0.mk (Q_RN (hoff 14 (by kernel_rfl)))
       refine value_ (w1 := w') (v := .pointer (some (⟨(ad.add (k * 3)).block, (ad.add (k * 3)).off + 1, none⟩))) (by rfl) rfl ?_ ?_
       ·go_simp
        (try simp only [i64_w])
        try rfl
        try assumption
       refine hK.out _ _ ⟨ge, v1, m13_, m15_, (by rw [ha.out]; exact putSel_upk 5 hb_ rfl rfl rfl), Q_HB, Q_BD, Q_RN, fun h0_ _ => absurd ((hoff 13 (by kernel_rfl)).symm.trans h0_) (by decide), fun h0_ => absurd ((hoff 13 (by kernel_rfl)).symm.trans h0_) (by decide), fun h0_ => absurd ((hoff 14 (by kernel_rfl)).symm.trans h0_) (by decide), fun h0_ => absurd ((hoff 13 (by kernel_rfl)).symm.trans h0_) (by decide), fun h0_ => absurd ((hoff 15 (by kernel_rfl)).symm.trans h0_) (by decide)⟩
      refine steps_cons ?_ ?_
      ·rintro b a w' ⟨ge, v1, m13_, m15_, ha, Q_HB, Q_BD, Q_RN, Q_EB, Q_Lge, Q_RM, Q_X13_, Q_X15_⟩ hb_ hon hoff
       refine ⟨_, rfl, fun K hK => ?_⟩
       have e57 : a.tmps[57]? = some (.pointer (some (⟨(ad.add (k * 3)).block, (ad.add (k * 3)).off + 1, none⟩))) := by rw [ha]; exact putSel_on (e := (5, 57, .pointer (some (⟨(ad.add (k * 3)).block, (ad.add (k * 3)).off + 1, none⟩)))) 5 rfl rfl (hon 5 (by kernel_rfl)) rfl
       replace ha := Aside0.mk ha
       have HB := Aside0.mk Q_HB
       have BD := Aside0.mk Q_BD
       have RN := Aside0.mk (Q_RN (hoff 14 (by kernel_rfl)))
       have z := (show w'.cell? (⟨(ad.add (k * 3)).block, (ad.add (k * 3)).off + 1, none⟩) = some (.int .i64 pa) from pw_cell_below HB.out PP1.out)
       refine value_ (w1 := w') (v := .int .i64 pa) (by rfl) rfl ?_ ?_
       ·go_simp
        (try simp only [i64_w])
        try rfl
        try assumption
       refine hK.out _ _ ⟨ge, v1, m13_, m15_, (by rw [ha.out]; exact putSel_upk 6 hb_ rfl rfl rfl), Q_HB, Q_BD, Q_RN, fun h0_ _ => absurd ((hoff 13 (by kernel_rfl)).symm.trans h0_) (by decide), fun h0_ => absurd ((hoff 13 (by kernel_rfl)).symm.trans h0_) (by decide), fun h0_ => absurd ((hoff 14 (by kernel_rfl)).symm.trans h0_) (by decide), fun h0_ => absurd ((hoff 13 (by kernel_rfl)).symm.trans h0_) (by decide), fun h0_ => absurd ((hoff 15 (by kernel_rfl)).symm.trans h0_) (by decide)⟩
      refine steps_cons ?_ ?_
      ·rintro b a w' ⟨ge, v1, m13_, m15_, ha, Q_HB, Q_BD, Q_RN, Q_EB, Q_Lge, Q_RM, Q_X13_, Q_X15_⟩ hb_ hon hoff
       refine ⟨_, rfl, fun K hK => ?_⟩
       have e1 : a.tmps[1]? = some (.pointer (some ⟨g1, 0, none⟩)) := by rw [ha]; exact (putSel_off rfl).trans rfl
       replace ha := Aside0.mk ha
       have HB := Aside0.mk Q_HB
       have BD := Aside0.mk Q_BD
       have RN := Aside0.mk (Q_RN (hoff 14 (by kernel_rfl)))
       refine value_ (w1 := w') (v := .pointer (some ⟨g1, 1, none⟩)) (by rfl) rfl ?_ ?_
       ·go_simp
        (try simp only [i64_w])
        try rfl
        try assumption
       refine hK.out _ _ ⟨ge, v1, m13_, m15_, (by rw [ha.out]; exact putSel_upk 7 hb_ rfl rfl rfl), Q_HB, Q_BD, Q_RN, fun h0_ _ => absurd ((hoff 13 (by kernel_rfl)).symm.trans h0_) (by decide), fun h0_ => absurd ((hoff 13 (by kernel_rfl)).symm.trans h0_) (by decide), fun h0_ => absurd ((hoff 14 (by kernel_rfl)).symm.trans h0_) (by decide), fun h0_ => absurd ((hoff 13 (by kernel_rfl)).symm.trans h0_) (by decide), fun h0_ => absurd ((hoff 15 (by kernel_rfl)).symm.trans h0_) (by decide)⟩
      refine steps_cons ?_ ?_
      ·rintro b a w' ⟨ge, v1, m13_, m15_, ha, Q_HB, Q_BD, Q_RN, Q_EB, Q_Lge, Q_RM, Q_X13_, Q_X15_⟩ hb_ hon hoff
       refine ⟨_, rfl, fun K hK => ?_⟩
       have e59 : a.tmps[59]? = some (.pointer (some ⟨g1, 1, none⟩)) := by rw [ha]; exact putSel_on (e := (7, 59, .pointer (some ⟨g1, 1, none⟩))) 7 rfl rfl (hon 7 (by kernel_rfl)) rfl
       replace ha := Aside0.mk ha
       have HB := Aside0.mk Q_HB
       have BD := Aside0.mk Q_BD
       have RN := Aside0.mk (Q_RN (hoff 14 (by kernel_rfl)))
       have z := BD.out.cell 1
       refine value_ (w1 := w') (v := .slice (some ad) an.length c2) (by rfl) rfl ?_ ?_
       ·go_simp
        (try simp only [i64_w])
        try rfl
        try assumption
       refine hK.out _ _ ⟨ge, v1, m13_, m15_, (by rw [ha.out]; exact putSel_upk 8 hb_ rfl rfl rfl), Q_HB, Q_BD, Q_RN, fun h0_ _ => absurd ((hoff 13 (by kernel_rfl)).symm.trans h0_) (by decide), fun h0_ => absurd ((hoff 13 (by kernel_rfl)).symm.trans h0_) (by decide), fun h0_ => absurd ((hoff 14 (by kernel_rfl)).symm.trans h0_) (by decide), fun h0_ => absurd ((hoff 13 (by kernel_rfl)).symm.trans h0_) (by decide), fun h0_ => absurd ((hoff 15 (by kernel_rfl)).symm.trans h0_) (by decide)⟩
      refine steps_cons ?_ ?_
      ·rintro b a w' ⟨ge, v1, m13_, m15_, ha, Q_HB, Q_BD, Q_RN, Q_EB, Q_Lge, Q_RM, Q_X13_, Q_X15_⟩ hb_ hon hoff
       refine ⟨_, rfl, fun K hK => ?_⟩
       have e6 : a.tmps[6]? = some (.int .i64 (k : Int)) := by rw [ha]; exact (putSel_off rfl).trans rfl
       replace ha := Aside0.mk ha
       have HB := Aside0.mk Q_HB
       have BD := Aside0.mk Q_BD
       have RN := Aside0.mk (Q_RN (hoff 14 (by kernel_rfl)))
       refine value_ (w1 := w') (v := .int .i64 (k : Int)) (by rfl) rfl ?_ ?_
       ·go_simp
        (try simp only [i64_w])
        try rfl
        try assumption
       refine hK.out _ _ ⟨ge, v1, m13_, m15_, (by rw [ha.out]; exact putSel_upk 9 hb_ rfl rfl rfl), Q_HB, Q_BD, Q_RN, fun h0_ _ => absurd ((hoff 13 (by kernel_rfl)).symm.trans h0_) (by decide), fun h0_ => absurd ((hoff 13 (by kernel_rfl)).symm.trans h0_) (by decide), fun h0_ => absurd ((hoff 14 (by kernel_rfl)).symm.trans h0_) (by decide), fun h0_ => absurd ((hoff 13 (by kernel_rfl)).symm.trans h0_) (by decide), fun h0_ => absurd ((hoff 15 (by kernel_rfl)).symm.trans h0_) (by decide)⟩
      refine steps_cons ?_ ?_
      ·rintro b a w' ⟨ge, v1, m13_, m15_, ha, Q_HB, Q_BD, Q_RN, Q_EB, Q_Lge, Q_RM, Q_X13_, Q_X15_⟩ hb_ hon hoff
       refine ⟨_, rfl, fun K hK => ?_⟩
       have e60 : a.tmps[60]? = some (.slice (some ad) an.length c2) := by rw [ha]; exact putSel_on (e := (8, 60, .slice (some ad) an.length c2)) 8 rfl rfl (hon 8 (by kernel_rfl)) rfl
       have e61 : a.tmps[61]? = some (.int .i64 (k : Int)) := by rw [ha]; exact putSel_on (e := (9, 61, .int .i64 (k : Int))) 9 rfl rfl (hon 9 (by kernel_rfl)) rfl
       replace ha := Aside0.mk ha
       have HB := Aside0.mk Q_HB
       have BD := Aside0.mk Q_BD
       have RN := Aside0.mk (Q_RN (hoff 14 (by kernel_rfl)))
       have y0 := BK0.out
       have y1 := BK1.out
       refine value_ (w1 := w') (v := .pointer (some (ad.add (k * 3)))) (by rfl) rfl ?_ ?_
       ·go_simp
        (try simp only [i64_w])
        try rfl
        try assumption
       refine hK.out _ _ ⟨ge, v1, m13_, m15_, (by rw [ha.out]; exact putSel_upk 10 hb_ rfl rfl rfl), Q_HB, Q_BD, Q_RN, fun h0_ _ => absurd ((hoff 13 (by kernel_rfl)).symm.trans h0_) (by decide), fun h0_ => absurd ((hoff 13 (by kernel_rfl)).symm.trans h0_) (by decide), fun h0_ => absurd ((hoff 14 (by kernel_rfl)).symm.trans h0_) (by decide), fun h0_ => absurd ((hoff 13 (by kernel_rfl)).symm.trans h0_) (by decide), fun h0_ => absurd ((hoff 15 (by kernel_rfl)).symm.trans h0_) (by decide)⟩
      refine steps_cons ?_ ?_
      ·rintro b a w' ⟨ge, v1, m13_, m15_, ha, Q_HB, Q_BD, Q_RN, Q_EB, Q_Lge, Q_RM, Q_X13_, Q_X15_⟩ hb_ hon hoff
       refine ⟨_, rfl, fun K hK => ?_⟩
       have e62 : a.tmps[62]? = some (.pointer (some (ad.add (k * 3)))) := by rw [ha]; exact putSel_on (e := (10, 62, .pointer (some (ad.add (k * 3))))) 10 rfl rfl (hon 10 (by kernel_rfl)) rfl
       replace ha := Aside0.mk ha
       have HB := Aside0.mk Q_HB
       have BD := Aside0.mk Q_BD
       have RN := Aside0.mk (Q_RN (hoff 14 (by kernel_rfl)))
       refine value_ (w1 := w') (v := .pointer (some (⟨(ad.add (k * 3)).block, (ad.add (k * 3)).off + 2, none⟩))) (by rfl) rfl ?_ ?_
       ·go_simp
        (try simp only [i64_w])
        try rfl
        try assumption
       refine hK.out _ _ ⟨ge, v1, m13_, m15_, (by rw [ha.out]; exact putSel_upk 11 hb_ rfl rfl rfl), Q_HB, Q_BD, Q_RN, fun h0_ _ => absurd ((hoff 13 (by kernel_rfl)).symm.trans h0_) (by decide), fun h0_ => absurd ((hoff 13 (by kernel_rfl)).symm.trans h0_) (by decide), fun h0_ => absurd ((hoff 14 (by kernel_rfl)).symm.trans h0_) (by decide), fun h0_ => absurd ((hoff 13 (by kernel_rfl)).symm.trans h0_) (by decide), fun h0_ => absurd ((hoff 15 (by kernel_rfl)).symm.trans h0_) (by decide)⟩
      refine steps_cons ?_ ?_
      ·rintro b a w' ⟨ge, v1, m13_, m15_, ha, Q_HB, Q_BD, Q_RN, Q_EB, Q_Lge, Q_RM, Q_X13_, Q_X15_⟩ hb_ hon hoff
       refine ⟨_, rfl, fun K hK => ?_⟩
       have e63 : a.tmps[63]? = some (.pointer (some (⟨(ad.add (k * 3)).block, (ad.add (k * 3)).off + 2, none⟩))) := by rw [ha]; exact putSel_on (e := (11, 63, .pointer (some (⟨(ad.add (k * 3)).block, (ad.add (k * 3)).off + 2, none⟩)))) 11 rfl rfl (hon 11 (by kernel_rfl)) rfl
       replace ha := Aside0.mk ha
       have HB := Aside0.mk Q_HB
       have BD := Aside0.mk Q_BD
       have RN := Aside0.mk (Q_RN (hoff 14 (by kernel_rfl)))
       have z := (show w'.cell? (⟨(ad.add (k * 3)).block, (ad.add (k * 3)).off + 2, none⟩) = some (.int .i64 pb) from pw_cell_below HB.out PP2.out)
       refine value_ (w1 := w') (v := .int .i64 pb) (by rfl) rfl ?_ ?_
       ·go_simp
        (try simp only [i64_w])
        try rfl
        try assumption
       refine hK.out _ _ ⟨ge, v1, m13_, m15_, (by rw [ha.out]; exact putSel_upk 12 hb_ rfl rfl rfl), Q_HB, Q_BD, Q_RN, fun h0_ _ => absurd ((hoff 13 (by kernel_rfl)).symm.trans h0_) (by decide), fun h0_ => absurd ((hoff 13 (by kernel_rfl)).symm.trans h0_) (by decide), fun h0_ => absurd ((hoff 14 (by kernel_rfl)).symm.trans h0_) (by decide), fun h0_ => absurd ((hoff 13 (by kernel_rfl)).symm.trans h0_) (by decide), fun h0_ => absurd ((hoff 15 (by kernel_rfl)).symm.trans h0_) (by decide)⟩
      refine steps_cons ?_ ?_
      ·rintro b a w' ⟨ge, v1, m13_, m15_, ha, Q_HB, Q_BD, Q_RN, Q_EB, Q_Lge, Q_RM, Q_X13_, Q_X15_⟩ hb_ hon hoff
       refine ⟨_, rfl, fun K hK => ?_⟩
       have e58 : a.tmps[58]? = some (.int .i64 pa) := by rw [ha]; exact putSel_on (e := (6, 58, .int .i64 pa)) 6 rfl rfl (hon 6 (by kernel_rfl)) rfl
       have e64 : a.tmps[64]? = some (.int .i64 pb) := by rw [ha]; exact putSel_on (e := (12, 64, .int .i64 pb)) 12 rfl rfl (hon 12 (by kernel_rfl)) rfl
       replace ha := Aside0.mk ha
       have HB := Aside0.mk Q_HB
       have BD := Aside0.mk Q_BD
       have RN := Aside0.mk (Q_RN (hoff 14 (by kernel_rfl)))
       refine value_ (w1 := w'.alloc (.cells #[.int .i64 pa, .int .i64 pb] 3)) (v := .slice (some ⟨w'.heap.size, 0, none⟩) 2 2) (by rfl) rfl ?_ ?_
       ·go_simp
       refine hK.out _ _ ⟨w'.heap.size, v1, (.slice (some ⟨w'.heap.size, 0, none⟩) 2 2), m15_, (by rw [ha.out]; exact putSel_upk 13 hb_ rfl rfl rfl), bthen' HB.out (below_alloc (Below.refl _ w') _), BD.out.alloc _, fun _ => Kd.R_below RN.out (below_alloc (Below.refl _ w') _), fun _ _ => Blk.new w' _ _ rfl, fun _ => HB.out.size, fun h0_ => absurd ((hoff 14 (by kernel_rfl)).symm.trans h0_) (by decide), fun _ => rfl, fun h0_ => absurd ((hoff 15 (by kernel_rfl)).symm.trans h0_) (by decide)⟩
      refine steps_cons ?_ ?_
      ·rintro b a w' ⟨ge, v1, m13_, m15_, ha, Q_HB, Q_BD, Q_RN, Q_EB, Q_Lge, Q_RM, Q_X13_, Q_X15_⟩ hb_ hon hoff
       refine ⟨_, rfl, fun K hK => ?_⟩
       have e52 : a.tmps[52]? = some (.slice Av xs.length cw) := by rw [ha]; exact putSel_on (e := (0, 52, .slice Av xs.length cw)) 0 rfl rfl (hon 0 (by kernel_rfl)) rfl
       have e65 : a.tmps[65]? = some (m13_) := by rw [ha]; exact putSel_on (e := (13, 65, m13_)) 13 rfl rfl (hon 13 (by kernel_rfl)) rfl
       rw [Q_X13_ (hon 13 (by kernel_rfl))] at e65
       replace ha := Aside0.mk ha
       have HB := Aside0.mk Q_HB
       have BD := Aside0.mk Q_BD
       have RN := Aside0.mk (Q_RN hb_)
       have EB := Aside0.mk (Q_EB (hon 13 (by kernel_rfl)) hb_)
       have Lge := Aside0.mk (Q_Lge (hon 13 (by kernel_rfl)))
       obtain ⟨vv, w2, hr, o1, o2, o3⟩ := append_ints RN.out HB.out HB.out.size ge [pa, pb] EB.out (by have := HLX.out; simp only [List.length_cons, List.length_nil]; omega)
       refine value_ (w1 := w2) (v := vv) (by rfl) rfl ?_ ?_
       ·exact run_append_opU (by rfl) e52 e65 hr
       refine hK.out _ _ ⟨ge, vv, m13_, m15_, (by rw [ha.out]; exact putSel_upk 14 hb_ rfl rfl rfl), o2, (o3.block g1 BD.out.lt (Kd.R_ne RN.out BD.out (by decide))).trans BD.out, fun h0_ => absurd ((up_self b 14).symm.trans h0_) (by decide), fun _ h1_ => absurd ((up_self b 14).symm.trans h1_) (by decide), Q_Lge, fun _ => o1, Q_X13_, fun h0_ => absurd ((hoff 15 (by kernel_rfl)).symm.trans h0_) (by decide)⟩
      refine steps_cons ?_ ?_
      ·rintro b a w' ⟨ge, v1, m13_, m15_, ha, Q_HB, Q_BD, Q_RN, Q_EB, Q_Lge, Q_RM, Q_X13_, Q_X15_⟩ hb_ hon hoff
       refine ⟨_, rfl, fun K hK => ?_⟩
       have e66 : a.tmps[66]? = some (v1) := by rw [ha]; exact putSel_on (e := (14, 66, v1)) 14 rfl rfl (hon 14 (by kernel_rfl)) rfl
       replace ha := Aside0.mk ha
       have HB := Aside0.mk Q_HB
       have BD := Aside0.mk Q_BD
       have Lge := Aside0.mk (Q_Lge (hon 13 (by kernel_rfl)))
       have RM := Aside0.mk (Q_RM (hon 14 (by kernel_rfl)))
       refine value_ (w1 := w') (v := v1) (by rfl) rfl ?_ ?_
       ·go_simp
        (try simp only [i64_w])
        try rfl
        try assumption
       refine hK.out _ _ ⟨ge, v1, m13_, (v1), (by rw [ha.out]; exact putSel_upk 15 hb_ rfl rfl rfl), Q_HB, Q_BD, fun h0_ => absurd ((hon 14 (by kernel_rfl)).symm.trans h0_) (by decide), fun _ h1_ => absurd ((hon 14 (by kernel_rfl)).symm.trans h1_) (by decide), Q_Lge, Q_RM, Q_X13_, fun _ => rfl⟩
      exact steps_nil
     ·rintro b a w' hall ⟨ge, v1, m13_, m15_, ha, Q_HB, Q_BD, Q_RN, Q_EB, Q_Lge, Q_RM, Q_X13_, Q_X15_⟩
      clear BD HB RN
      have hb0_ := hall 0 (by kernel_rfl)
      have hb1_ := hall 1 (by kernel_rfl)
      have hb2_ := hall 2 (by kernel_rfl)
      have hb3_ := hall 3 (by kernel_rfl)
      have hb4_ := hall 4 (by kernel_rfl)
      have hb5_ := hall 5 (by kernel_rfl)
      have hb6_ := hall 6 (by kernel_rfl)
      have hb7_ := hall 7 (by kernel_rfl)
      have hb8_ := hall 8 (by kernel_rfl)
      have hb9_ := hall 9 (by kernel_rfl)
      have hb10_ := hall 10 (by kernel_rfl)
      have hb11_ := hall 11 (by kernel_rfl)
      have hb12_ := hall 12 (by kernel_rfl)
      have hb13_ := hall 13 (by kernel_rfl)
      have hb14_ := hall 14 (by kernel_rfl)
      have hb15_ := hall 15 (by kernel_rfl)
      subst ha
      obtain rfl := Q_X13_ hb13_
      obtain rfl := Q_X15_ hb15_
      simp only [putSel, hb0_, hb1_, hb2_, hb3_, hb4_, hb5_, hb6_, hb7_, hb8_, hb9_, hb10_, hb11_, hb12_, hb13_, hb14_, hb15_, if_true, Act.put, List.setIfInBounds_toArray, List.set_cons_zero, List.set_cons_succ]
      have HB := Aside0.mk Q_HB
      clear Q_HB
      have BD := Aside0.mk Q_BD
      clear Q_BD
      clear Q_RN
      clear Q_EB
      have Lge := Aside0.mk (Q_Lge hb13_)
      clear Q_Lge
      have RM := Aside0.mk (Q_RM hb14_)
      clear Q_RM
      clear hall hb0_ hb1_ hb2_ hb3_ hb4_ hb5_ hb6_ hb7_ hb8_ hb9_ hb10_ hb11_ hb12_ hb13_ hb14_ hb15_
      generalize w' = W5 at *
      have H1 := Lib.hid BD.out
      have H2 := Lib.hid RM.out
      have H3 := Lib.hid HB.out
      clear HB BD RM
      go_wp2_with fail
      exact ⟨⟨k + 1, by go_num, by have := HKL.out; omega, H1, Lib.hid (by rw [HTK.out, numA_snoc, ← List.append_assoc, hxs]; exact H2.out), H3⟩, by have := HKL.out; simp [intOf]; omega⟩
    ·have d1 : decide (k < an.length) = false := decide_eq_false hlt
     have d2 : decide ((k : Int) < (an.length : Int)) = false := decide_eq_false (by omega)
     obtain rfl : k = an.length := by omega
     have HR1 := Lib.hid (show Kd.R kI 3 wr w.heap.size (fun _ => True) _ (numC ct ++ numA an) by have h := HR.out; rw [List.take_length] at h; exact h)
     clear HR
     have HR := HR1
     clear HR1
     have HLX := Lib.hid (show (numC ct ++ numA an).length ≤ 5000000 by rw [List.length_append, numC_len, numA_len]; have := HPN.out; have := HAL.out; omega)
     generalize hxs : numC ct ++ numA an = xs at *
     obtain ⟨Av, cw, rfl⟩ := Kd.R_slice HR.out
     have c1 := BD_.out.cell 1
     simp only [List.getElem?_toArray, List.getElem?_cons_zero, List.getElem?_cons_succ] at c1
     go_upto_region 13 with fail
     clear c1 d1 d2 hlt hk
     have HA1 := Lib.hid (Kd.R_below HR.out (below_alloc (Below.refl _ wr) (.cells #[.int .i64 xb, .int .i64 xc, .int .i64 av] 3)))
     have HA3 := Lib.hid (bthen' HWW.out (below_alloc (Below.refl _ wr) (.cells #[.int .i64 xb, .int .i64 xc, .int .i64 av] 3)))
     have HA2 := Lib.hid (C_three (Blk.new wr #[.int .i64 xb, .int .i64 xc, .int .i64 av] 3 rfl))
     have c3 := BD_.out.cell 3
     have c4 := BD_.out.cell 4
     have c5 := BD_.out.cell 5
     simp only [List.getElem?_toArray, List.getElem?_cons_zero, List.getElem?_cons_succ] at c3 c4 c5
     go_wp2_with (at_builtin; go_loud (refine Kd.R_append_row (Value.int .i64) 0 (h1 := fun _ => rfl) (w0 := w) w.heap.size rfl (.tmp 67) (.tmp 76) 30 3 _ 8 rfl (by kernel_rfl) infoInt rfl (by decide) (.slice Av xs.length cw) xs [xb, xc, av] _ 3 3 (fun _ => True) rfl rfl (fun _ _ => trivial) HA1.out HA2.out HA3.out HA3.out.size (by have := HLX.out; omega) ?_); intro v9 w9 hR9 hB9 hG9 hat9; have HR9 := Lib.hid hR9; have HB9 := Lib.hid hB9; clear hR9 hB9 hG9 hat9 c3 c4 c5)
     go_ret
     exact ⟨_, rfl, by unfold numL; rw [hxs]; exact HR9.out, HB9.out⟩
end Go.Proofs.Ythpccdhmppbkfaa
/- plain laws: the numbers of outlines of glyphs that are made. -/
set_option linter.unusedVariables false
set_option linter.unusedSimpArgs false
namespace Go.Proofs.Ythpccdhmppbkfaa
open Go.RowKit Go.Shelf Go.Proofs.YthpccdhmppbkfaaW.PrintWords Go.Proofs.YthpccdhmppbkfaaW.PrintLast Go.Proofs.YthpccdhmppbkfaaW.PrintMore
theorem rnd_in (n d M : Int) (hd : 1 ≤ d) (h1 : -(M * d) ≤ n) (h2 : n ≤ M * d) : -M ≤ rnd n d ∧ rnd n d ≤ M := by
 have e := Int.emod_add_mul_ediv n d
 have m0 := Int.emod_nonneg n (show d ≠ 0 by omega)
 have m1 := Int.emod_lt_of_pos n (show 0 < d by omega)
 have l1 : -M ≤ n / d := by
  have : -M * d ≤ n := by rw [Int.neg_mul]; exact h1
  exact (Int.le_ediv_iff_mul_le (by omega)).2 this
 have l2 : n / d ≤ M := Int.ediv_le_of_le_mul (by omega) h2
 unfold rnd
 split
 ·rename_i hh
  refine ⟨by omega, ?_⟩
  rcases Int.lt_or_le (n / d) M with h | h
  ·omega
  ·have h3 : n / d = M := by omega
   rw [h3, Int.mul_comm d M] at e
   omega
 ·exact ⟨l1, l2⟩
theorem part_le (a n d : Int) (h : -64 ≤ a ∧ a ≤ 64) : -4096 ≤ partQ a n d ∧ partQ a n d ≤ 4096 := by
 unfold partQ
 split
 ·rename_i hp
  unfold partOk at hp
  rw [Bool.and_eq_true] at hp
  obtain ⟨d1, _, n0, n1, _⟩ := rightB_true.1 hp.2
  obtain ⟨a1, a2⟩ := h
  have k1 : 64 * a * n ≤ 4096 * d := by
   rw [Int.mul_assoc]
   have : a * n ≤ 64 * n := Int.mul_le_mul_of_nonneg_right a2 n0
   omega
  have k2 : -(4096 * d) ≤ 64 * a * n := by
   rw [Int.mul_assoc]
   have : (-64) * n ≤ a * n := Int.mul_le_mul_of_nonneg_right a1 n0
   omega
  exact rnd_in _ _ 4096 d1 k2 k1
 ·omega
theorem sum_bd : ∀ (l : List Int) , (∀ x ∈ l, -4096 ≤ x ∧ x ≤ 4096) → -(4096 * (l.length : Int)) ≤ l.sum ∧ l.sum ≤ 4096 * (l.length : Int)
 | [], _ => by simp
 | a :: l, h => by
  have h1 := sum_bd l (fun x hx => h x (List.mem_cons_of_mem _ hx))
  have h2 := h a (List.mem_cons_self ..)
  rw [List.sum_cons, List.length_cons]
  omega
def Bd (x : Int) : Prop := -16384 ≤ x ∧ x ≤ 16384
theorem sumB_bd (bv : Dl → Int) (n : Int) (dl : List Dl) (sh : List I2) (hn : -128 ≤ n ∧ n ≤ 128) (hb : ∀ d ∈ dl, -64 ≤ bv d ∧ bv d ≤ 64) (hl : dl.length ≤ 2) : Bd (sumB bv n dl sh) := by
 unfold sumB
 have h := sum_bd ((dl.zip sh).map fun x => partQ (bv x.1) x.2.a x.2.b) (fun x hx => by
  obtain ⟨y, hy, rfl⟩ := List.mem_map.1 hx
  exact part_le _ _ _ (hb _ (List.of_mem_zip hy).1))
 rw [List.length_map, List.length_zip] at h
 unfold Bd
 omega
theorem wi64_of {x : Int} (h : wiB 64 x = true) : -64 ≤ x ∧ x ≤ 64 := by unfold wiB at h; simpa using h
theorem dl_nums (n : Nat) (R hc : Int) : ∀ (l : List Dl) (p : Int), dlB n R hc p l = true → ∀ d ∈ l, (-64 ≤ d.adv ∧ d.adv ≤ 64) ∧ ∀ m ∈ d.moves, (-64 ≤ m.a ∧ m.a ≤ 64) ∧ (-64 ≤ m.b ∧ m.b ≤ 64)
 | [], _, _, _, hd => by cases hd
 | a :: l, p, h, d, hd => by
  have h1 : (dOk n R hc p a && dlB n R hc a.region l) = true := h
  rw [Bool.and_eq_true] at h1
  rcases List.mem_cons.1 hd with rfl | hd
  ·have h2 := h1.1
   unfold dOk at h2
   simp only [Bool.and_eq_true] at h2
   refine ⟨wi64_of h2.2.2.2.1, fun m hm => ?_⟩
   have h3 := h2.2.2.2.2.2.1
   simp only [Bool.not_eq_true', List.any_eq_false] at h3
   have h4 := h3 m hm
   have h5 : mvB m = true := by simpa using h4
   unfold mvB wi2 at h5
   rw [Bool.and_eq_true] at h5
   exact ⟨wi64_of h5.1, wi64_of h5.2⟩
  ·exact dl_nums n R hc l _ h1.2 d hd
theorem chk_dl (g : Gl) (R : Int) (h : g.chk R = 0) : g.dlOk R = true := by
 unfold Gl.chk at h
 split at h; · cases h
 unfold Gl.chk2 at h
 split at h; · cases h
 unfold Gl.chk3 at h
 split at h; · cases h
 unfold Gl.chk4 at h
 split at h; · cases h
 unfold Gl.chk5 at h
 split at h; · cases h
 unfold Gl.chk6 at h
 split at h; · cases h
 rename_i h6
 simpa using h6
/-- what is known of a made glyph's deltas -/
theorem md_dl {g : Gl} {R : Nat} (h : MdOk R g) : ∀ d ∈ g.dl, (-64 ≤ d.adv ∧ d.adv ≤ 64) ∧ ∀ k, (-64 ≤ (d.moves.getD k zI2).a ∧ (d.moves.getD k zI2).a ≤ 64) ∧ (-64 ≤ (d.moves.getD k zI2).b ∧ (d.moves.getD k zI2).b ≤ 64) := by
 intro d hd
 have h1 := dl_nums _ _ _ _ _ (chk_dl g R h.chk) d hd
 refine ⟨h1.1, fun k => ?_⟩
 rcases Nat.lt_or_ge k d.moves.length with hk | hk
 ·exact h1.2 _ (getD_at hk zI2)
 ·rw [List.getD_eq_getElem?_getD, List.getElem?_eq_none hk]; decide
theorem md_few {g : Gl} {R : Nat} (h : MdOk R g) : g.few := by
 have hg := chk_good g R h.chk
 have h1 := hg.nc; have h2 := hg.na; have h3 := hg.np; have h4 := h.nd
 unfold Gl.pts at h3
 refine ⟨by omega, by omega, by omega, by rw [h.pr]; exact Nat.zero_le _, by omega, fun d hd => ?_⟩
 rw [(hg.dl d hd).2.2]; unfold Gl.pts; omega
theorem case_E {w w' : World} {g : Gl} {h : Hd} {rs : List (List I3)} {Ar : Option Addr} {cr : Nat} {ns : List Int} {Ba : Option Addr} {ca : Nat} (c : CaseP w g h rs Ar cr ns Ba ca w') : ∀ g' : Gl, g'.chk rs.length = 0 → atE g' rs ns = 0 := by
 intro g' hg
 unfold atE
 rw [if_pos hg]
 unfold atE2
 rw [if_neg (by
  rintro (h1 | h1)
  ·have := c.n3; omega
  ·rw [List.any_eq_true] at h1
   obtain ⟨x, hx, h2⟩ := h1
   have h3 := c.nb x hx
   rw [show wiB 64 x = true by unfold wiB; rw [decide_eq_true_eq]; exact h3] at h2
   cases h2)]
 unfold atE1
 rw [if_neg (by
  intro h1
  rw [List.any_eq_true] at h1
  obtain ⟨x, hx, h2⟩ := h1
  rw [c.rg x hx] at h2
  cases h2)]
/-- the outline's numbers are small -/
structure DrB (ct : List (List Pt)) (an : List I3) (xb xc av : Int) : Prop where
 ct : ∀ q ∈ ct, ∀ p ∈ q, Bd p.a ∧ Bd p.b
 an : ∀ p ∈ an, Bd p.b ∧ Bd p.c
 xb : Bd xb
 xc : Bd xc
 av : Bd av
theorem at_bd {g : Gl} {R : Nat} (h : MdOk R g) (rs : List (List I3)) (ns : List Int) : DrB (atC g rs ns) (atA g rs ns) (atX g rs ns) (atY g rs ns) (atV g rs ns) := by
 have hg := chk_good g R h.chk
 have hd := md_dl h
 refine ⟨fun q hq p hp => ?_, fun p hp => ?_, ?_, ?_, ?_⟩
 ·unfold atC plCs at hq
  obtain ⟨j, hj, rfl⟩ := List.mem_map.1 hq
  rw [List.mem_range] at hj
  unfold plC plL spK at hp
  rw [List.map_map] at hp
  obtain ⟨i, hi, rfl⟩ := List.mem_map.1 hp
  rw [List.mem_range] at hi
  have h1 := (hg.ct _ (getD_at hj [])).2 _ (getD_at hi zPt)
  dsimp only [Function.comp, plP]
  generalize (g.ct.getD j []).getD i zPt = pp at *
  generalize ptsN (g.ct.take j) + i = kk at *
  exact ⟨sumB_bd _ _ _ _ ⟨h1.1, h1.2.1⟩ (fun d hdd => ((hd d hdd).2 _).1) h.nd, sumB_bd _ _ _ _ ⟨h1.2.2.1, h1.2.2.2⟩ (fun d hdd => ((hd d hdd).2 _).2) h.nd⟩
 ·unfold atA plAs at hp
  obtain ⟨j, hj, rfl⟩ := List.mem_map.1 hp
  rw [List.mem_range] at hj
  have h1 := hg.an _ (getD_at hj zI3)
  dsimp only [plA]
  generalize g.an.getD j zI3 = pp at *
  generalize ptsN g.ct + j = kk at *
  exact ⟨sumB_bd _ _ _ _ ⟨h1.1, h1.2.1⟩ (fun d hdd => ((hd d hdd).2 _).1) h.nd, sumB_bd _ _ _ _ ⟨h1.2.2.1, h1.2.2.2⟩ (fun d hdd => ((hd d hdd).2 _).2) h.nd⟩
 ·have h1 := hg.hang
  exact sumB_bd _ _ _ _ ⟨h1.1, h1.2.1⟩ (fun d hdd => ((hd d hdd).2 _).1) h.nd
 ·have h1 := hg.hang
  exact sumB_bd _ _ _ _ ⟨h1.2.2.1, h1.2.2.2⟩ (fun d hdd => ((hd d hdd).2 _).2) h.nd
 ·have h1 := hg.adv
  exact sumB_bd _ _ _ _ ⟨by omega, h1.2⟩ (fun d hdd => (hd d hdd).1) h.nd
theorem mem_num {ct : List (List Pt)} {an : List I3} {xb xc av : Int} (h : DrB ct an xb xc av) : ∀ x ∈ numL ct an xb xc av, Bd x := by
 intro x hx
 unfold numL at hx
 rcases List.mem_append.1 hx with hx | hx
 ·rcases List.mem_append.1 hx with hx | hx
  ·unfold numC at hx
   obtain ⟨q, hq, hx⟩ := List.mem_flatMap.1 hx
   unfold numP at hx
   obtain ⟨p, hp, hx⟩ := List.mem_flatMap.1 hx
   have h1 := h.ct q hq p hp
   simp only [List.mem_cons, List.not_mem_nil, or_false] at hx
   rcases hx with rfl | rfl
   ·exact h1.1
   ·exact h1.2
  ·unfold numA at hx
   obtain ⟨p, hp, hx⟩ := List.mem_flatMap.1 hx
   have h1 := h.an p hp
   simp only [List.mem_cons, List.not_mem_nil, or_false] at hx
   rcases hx with rfl | rfl
   ·exact h1.1
   ·exact h1.2
 ·simp only [List.mem_cons, List.not_mem_nil, or_false] at hx
  rcases hx with rfl | rfl | rfl
  ·exact h.xb
  ·exact h.xc
  ·exact h.av
/-- lengths of an outline's rows -/
theorem atC_len (g : Gl) (rs : List (List I3)) (ns : List Int) : (atC g rs ns).length = g.ct.length ∧ ptsN (atC g rs ns) = ptsN g.ct ∧ (∀ q ∈ atC g rs ns, ∃ c ∈ g.ct, q.length = c.length) ∧ (atA g rs ns).length = g.an.length := by
 have hm : (atC g rs ns).map List.length = g.ct.map List.length := by
  unfold atC plCs
  rw [List.map_map]
  apply List.ext_getElem
  ·simp
  ·intro i h1 h2
   simp only [List.length_map, List.length_range] at h1
   simp [plC, plL, spK_len, List.getD_eq_getElem?_getD, h1]
 refine ⟨by simp [atC, plCs], by unfold ptsN; rw [hm], fun q hq => ?_, by simp [atA, plAs]⟩
 unfold atC plCs at hq
 obtain ⟨j, hj, rfl⟩ := List.mem_map.1 hq
 rw [List.mem_range] at hj
 exact ⟨_, getD_at hj [], by simp [plC, plL, spK_len]⟩
end Go.Proofs.Ythpccdhmppbkfaa
/- OutlineSizes. -/
set_option linter.unusedVariables false
set_option linter.unusedSimpArgs false
namespace Go.Proofs.Ythpccdhmppbkfaa
open Go.RowKit Go.Shelf Go.Proofs.YthpccdhmppbkfaaW.PrintWords Go.Proofs.YthpccdhmppbkfaaW.PrintLast Go.Proofs.YthpccdhmppbkfaaW.PrintMore
theorem len_le_pts : ∀ (ct : List (List Pt)) (q : List Pt), q ∈ ct → q.length ≤ ptsN ct
 | a :: ct, q, h => by
  unfold ptsN
  rw [List.map_cons, List.sum_cons]
  rcases List.mem_cons.1 h with rfl | h
  ·omega
  ·have := len_le_pts ct q h
   unfold ptsN at this
   omega
theorem Sc_len {α : Type} {d : Kd α} {e base n c : Nat} {w : World} {A : Option Addr} {xs : List α} (h : Kd.R d e w base (fun _ => True) (.slice A n c) xs) : Kd.C d w A n xs := by
 have h1 := Kd.R_reads' h
 rw [h1.1]; exact h1.2.2
theorem cellsI {w : World} {A : Option Addr} {xs : List Int} (h : Kd.C kI w A xs.length xs) (h0 : 0 < xs.length) : ∃ ad, A = some ad ∧ ∀ k, k < xs.length → w.cell? (ad.add k) = some (.int .i64 (xs.getD k 0)) := by
 obtain ⟨ad, c0, rfl, _, _⟩ := el1 (d := kI) rfl h 0 0 h0
 refine ⟨ad, rfl, fun k hk => ?_⟩
 obtain ⟨ad', c0', e, hK, hc⟩ := el1 (d := kI) rfl h 0 k hk
 cases e
 have hK' : [c0'] = [Value.int .i64 (xs.getD k 0)] := hK
 rw [hc]
 congr 1
 simpa using hK'
theorem getD_mapz (xs : List Int) (f : Int → Int) (k : Nat) (h : k < xs.length) : (xs.map f).getD k 0 = f (xs.getD k 0) := by simp [List.getD_eq_getElem?_getD, h]
def oSz5.T5 : Bool × List (List Nat × List Nat) := (true, [([], []), ([0], [0]), ([], []), ([], []), ([2, 3, 1], [2, 3]), ([4, 4], [4]), ([1, 5, 0, 1], [1]), ([5, 6, 0, 1, 2, 3, 4, 5, 6], [5])])
def oSz5.B5 : List Nat := [0, 1, 0, 0, 15, 31, 63, 127]
theorem oSz5.tab5 : rtab .any (opsOf Try.f6 5) = oSz5.T5 := by kernel_rfl
theorem oSz5.bits5 : waitsOk oSz5.T5.2 oSz5.B5 = true := by kernel_rfl
end Go.Proofs.Ythpccdhmppbkfaa
/- Arguments that are read: what their values look like. -/
set_option linter.unusedVariables false
set_option linter.unusedSimpArgs false
namespace Go.Proofs.Ythpccdhmppbkfaa
open Go.ChangeShapes Go.WideShapes Go.ChangeAt Go.RowKit Go.Joins
section
variable {H : Type} {enc : TypeId × Value → H} {P : Program} {w : World} {base : Nat} {spare : Nat → Bool} {held : Bool} {fuel : Nat} {t e : TypeId} {cs : List Value} {x : DataW H × List MemPlace}
/-- an array of whole numbers: its cells -/
theorem rd_ints {n : Nat} {k : IntKind} (ht : P.underlying t = some (.array n e)) (he : P.underlying e = some (.int k)) (hc : P.cellsOf e = 1) (hC : P.cellsOf t = n) (h : DataW.trod enc P w base spare held fuel t cs = some x) :
  ∃ xs : List Int, xs.length = n ∧ cs = xs.map (Value.int k) ∧ ∀ y ∈ xs, (Lit.int k y).wf = true := by
 obtain ⟨ys, m, rfl, rfl, hl, hn, hy⟩ := DataW.trod_array ht h
 rw [hC] at hl
 have key : ∀ i (hi : i < cs.length), ∃ z, cs[i] = .int k z ∧ (Lit.int k z).wf = true := by
  intro i hi
  have hh := hy i (by omega)
  rw [hc, Nat.mul_one] at hh
  have h2 : (cs.drop i).take 1 = [cs[i]] := by rw [List.drop_eq_getElem_cons hi]; rfl
  rw [h2, List.getElem?_eq_getElem (by omega)] at hh
  obtain ⟨z, hz, _, hw⟩ := DataW.trod_int he hh
  exact ⟨z, by simpa using hz, hw⟩
 clear hy
 refine ⟨cs.map (fun v => match v with | .int _ z => z | _ => 0), by simpa using hl, ?_, ?_⟩
 ·apply List.ext_getElem
  ·simp
  ·intro i h1 h2
   obtain ⟨z, hz, _⟩ := key i h1
   simp [hz]
 ·intro y hy
  rw [List.mem_map] at hy
  obtain ⟨v, hv, rfl⟩ := hy
  obtain ⟨i, hi, rfl⟩ := List.getElem_of_mem hv
  obtain ⟨z, hz, hw⟩ := key i hi
  simpa [hz] using hw
end
end Go.Proofs.Ythpccdhmppbkfaa
/- The argument Case is read. -/
set_option linter.unusedVariables false
set_option linter.unusedSimpArgs false
namespace Go.Proofs.Ythpccdhmppbkfaa
open Go.ChangeShapes Go.WideShapes Go.ChangeAt Go.RowKit Go.Joins Go.Proofs.YthpccdhmppbkfaaW.PrintWords Go.Proofs.YthpccdhmppbkfaaW.PrintLast
def ReadsT {α : Type} (d : Kd α) (P : Program) (e : TypeId) : Prop :=
 ∀ (H : Type) (enc : TypeId × Value → H) (w : World) (base : Nat) (spare : Nat → Bool) (held : Bool) (fuel : Nat) (cs : List Value) (x : DataW H × List MemPlace), DataW.trod enc P w base spare held fuel e cs = some x → ∃ p, d.K w p cs
theorem list_choose {α : Type} {Q : Nat → α → Prop} : ∀ {n : Nat}, (∀ i, i < n → ∃ p, Q i p) → ∃ xs : List α, xs.length = n ∧ ∀ j p, xs[j]? = some p → Q j p
 | 0, _ => ⟨[], rfl, fun j p h => by simp at h⟩
 | n + 1, h => by
  obtain ⟨xs, hl, hx⟩ := list_choose (n := n) fun i hi => h i (Nat.lt_succ_of_lt hi)
  obtain ⟨p, hp⟩ := h n (Nat.lt_succ_self n)
  refine ⟨xs ++ [p], by simp [hl], fun j q hq => ?_⟩
  rcases Nat.lt_or_ge j n with hj | hj
  ·rw [List.getElem?_append_left (by omega)] at hq
   exact hx j q hq
  ·rw [List.getElem?_append_right (by omega), hl] at hq
   have : j - n = 0 := by
    rcases Nat.eq_zero_or_pos (j - n) with h | h
    ·exact h
    ·rw [List.getElem?_eq_none (by simp; omega)] at hq; cases hq
   rw [this] at hq
   obtain rfl : p = q := by simpa using hq
   rw [show j = n by omega]
   exact hp
theorem reads_int {P : Program} {e : TypeId} {k : IntKind} (he : P.underlying e = some (.int k)) : ReadsT (Kd.int k) P e := by
 intro H enc w base spare held fuel cs x h
 obtain ⟨n, hn, _⟩ := DataW.trod_int he h
 exact ⟨n, hn⟩
theorem reads_slice {α : Type} {d : Kd α} {P : Program} {t e : TypeId} (ht : P.underlying t = some (.slice e)) (hc : P.cellsOf e = d.sz) (h : ReadsT d P e) : ReadsT (Kd.slice e d) P t := by
 intro H enc w base spare held fuel cs x hx
 rcases Deep.open_slice ht hx with ⟨rfl, _⟩ | ⟨a, len, cap, m, n, D, Pl, rfl, hb, hl, hm, hmm, _, hel⟩
 ·exact ⟨[], none, 0, rfl, Nat.le_refl _, rfl, Nat.zero_le _, fun h => absurd h (Nat.lt_irrefl _)⟩
 ·have hlm : len ≤ m := by rw [hmm]; split <;> omega
  obtain ⟨xs, hxl, hxs⟩ := list_choose (n := len) (Q := fun j p => ∃ c, c.length = d.sz ∧ d.K w p c ∧ ∀ i u, c[i]? = some u → w.cell? (a.add (j * d.sz + i)) = some u) (by
   intro i hi
   obtain ⟨cs', h1, h2⟩ := hel i (by omega)
   rw [hc] at h1
   obtain ⟨_, hlen, hcell⟩ := World.cells?_some h1
   obtain ⟨p, hp⟩ := h H enc w base spare held n cs' _ h2
   refine ⟨p, cs', d.K_len hp, hp, fun j u hu => ?_⟩
   have hj : j < d.sz := by
    rcases Nat.lt_or_ge j d.sz with hlt | hge
    ·exact hlt
    ·rw [List.getElem?_eq_none (by rw [d.K_len hp]; exact hge)] at hu; cases hu
   have e0 := hcell j hj
   rw [Deep.add_add] at e0
   rw [e0, hu])
  refine ⟨xs, some a, cap, by rw [hxl], by omega, rfl, ?_, fun _ => ⟨a, rfl, hxs⟩⟩
  rw [hxl]
  unfold maxLen at hm
  omega
theorem okWide_struct {P : Program} {w : World} {base : Nat} {t : TypeId} {fs : Array Field} {r : Reach} {v : Value} (ht : P.underlying t = some (.struct fs)) (h : Value.okWide P w r base t v) : ∃ cs, v = .agg cs ∧ cs.size = P.cellsOf t := by
 simp only [Value.okWide, ht] at h
 obtain ⟨cs, h1, h2, _⟩ := h
 exact ⟨cs, h1, h2⟩
theorem u8_in {x : Int} (h : (Lit.int .u8 x).wf = true) : 0 ≤ x ∧ x ≤ 255 := by
 simp [Lit.wf, IntKind.min, IntKind.max, IntKind.signed, IntKind.bits] at h
 omega
/-- the arguments of the law, of the type Case -/
structure CaseA (w : World) (v : Value) (l1 l2 l3 : List Int) (A1 A2 A3 : Option Addr) (c1 c2 c3 : Nat) (o0 o1 o2 x y : Int) : Prop where
 val : v = .agg #[.slice A1 l1.length c1, .slice A2 l2.length c2, .slice A3 l3.length c3, .int .i64 o0, .int .i64 o1, .int .i64 o2, .int .u8 x, .int .u8 y]
 x_ : 0 ≤ x ∧ x ≤ 255
 y_ : 0 ≤ y ∧ y ≤ 255
 h1 : Kd.C kI w A1 l1.length l1
 h2 : Kd.C kI w A2 l2.length l2
 h3 : Kd.C kI w A3 l3.length l3
 h4 : l2.length ≤ c2
set_option maxRecDepth 100000 in
theorem arg_case {H : Type} {enc : TypeId × Value → H} {w : World} {base : Nat} {spare : Nat → Bool} {held : Bool} {r : Reach} {b0 : Nat} {v : Value} {d : DataW H} {p : List MemPlace} {f0 f1 f2 f3 f4 f5 : Field}
  (ht : Try.prog.underlying 33 = some (.struct #[f0, f1, f2, f3, f4, f5])) (t0 : f0.type = 30) (t1 : f1.type = 30) (t2 : f2.type = 30) (t3 : f3.type = 31) (t4 : f4.type = 5) (t5 : f5.type = 5)
  (o0 : f0.offset = 0) (o1 : f1.offset = 1) (o2 : f2.offset = 2) (o3 : f3.offset = 3) (o4 : f4.offset = 6) (o5 : f5.offset = 7)
  (hv : Value.okWide Try.prog w r b0 33 v) (h : DataW.Trod enc Try.prog w base spare held 33 v d p) :
  ∃ l1 l2 l3 A1 A2 A3 c1 c2 c3 o0 o1 o2 x y, CaseA w v l1 l2 l3 A1 A2 A3 c1 c2 c3 o0 o1 o2 x y := by
 obtain ⟨cs, rfl, hsz⟩ := okWide_struct ht hv
 obtain ⟨fuel, hf⟩ := h
 have hsz8 : cs.size = 8 := by rw [hsz]; kernel_rfl
 obtain ⟨cs⟩ := cs
 have hcl : cs.length = 8 := hsz8
 obtain ⟨xs, k, hk, hxy, _, hxl, hh⟩ := DataW.trod_struct ht hf
 have z1 : Try.prog.cellsOf 30 = 1 := by kernel_rfl
 have z3 : Try.prog.cellsOf 31 = 3 := by kernel_rfl
 have z8 : Try.prog.cellsOf 5 = 1 := by kernel_rfl
 match xs, hxl, cs, hcl with
 | [y0, y1, y2, y3, y4, y5], _, [v0, v1, v2, v3, v4, v5, v6, v7], _ =>
  have q0 := hh 0 f0 rfl
  have q1 := hh 1 f1 rfl
  have q2 := hh 2 f2 rfl
  have q3 := hh 3 f3 rfl
  have q4 := hh 4 f4 rfl
  have q5 := hh 5 f5 rfl
  simp [o0, o1, o2, o3, o4, o5, t0, t1, t2, t3, t4, t5, z1, z3, z8, Value.cells] at q0 q1 q2 q3 q4 q5
  have RI := reads_slice (d := kI) Try.underlying30 (by kernel_rfl) (reads_int Try.underlying3)
  obtain ⟨l1, A1, c1, e1, k1, C1⟩ := RI _ _ _ _ _ _ _ _ _ q0
  obtain ⟨l2, A2, c2, e2, k2, C2⟩ := RI _ _ _ _ _ _ _ _ _ q1
  obtain ⟨l3, A3, c3, e3, k3, C3⟩ := RI _ _ _ _ _ _ _ _ _ q2
  obtain ⟨zs, hz1, hz2, _⟩ := rd_ints Try.underlying31 Try.underlying3 (by kernel_rfl) (by kernel_rfl) q3
  obtain ⟨x, hx, _, wx⟩ := DataW.trod_int Try.underlying5 q4
  obtain ⟨y, hy, _, wy⟩ := DataW.trod_int Try.underlying5 q5
  match zs, hz1 with
  | [a, b, c], _ =>
   simp at e1 e2 e3 hz2 hx hy
   obtain ⟨rfl, rfl, rfl⟩ := hz2
   subst e1 e2 e3 hx hy
   exact ⟨l1, l2, l3, A1, A2, A3, c1, c2, c3, a, b, c, x, y, rfl, u8_in wx, u8_in wy, C1, C2, C3, k2⟩
end Go.Proofs.Ythpccdhmppbkfaa
