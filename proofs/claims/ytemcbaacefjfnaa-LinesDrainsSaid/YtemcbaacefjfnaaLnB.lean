/- Swap of the queue of package lines. -/
import Derived.Test.YtemcbaacefjfnaaLnA
set_option linter.unusedVariables false
set_option linter.unusedSimpArgs false
namespace Go.Proofs.Ytemcbaacefjfnaa
open Go.RowKit Go.Proofs.YtemcbaacefjfnaaW.PrintWords Go.Proofs.YtemcbaacefjfnaaW.PrintLast

theorem _root_.Go.World.grownBy.trans' {a b c : World} {r : Option Nat} (h : a.grownBy b r) (k : b.grownBy c r) : a.grownBy c r :=
  ⟨k.os.trans h.os, k.tape.trans h.tape, k.output.trans h.output, Nat.le_trans h.size k.size, fun i hi hr => (k.block i (Nat.lt_of_lt_of_le hi h.size) hr).trans (h.block i hi hr)⟩

def lnSwap.T0 : Bool × List (List Nat × List Nat) := (true, [([], []), ([], []), ([], []), ([], []), ([], []), ([], []), ([4, 5], [4, 5]), ([6], [6]), ([], []), ([], []), ([8, 9], [8, 9]), ([10], [10]), ([0, 1, 0, 1, 4, 5, 6, 7, 11], [0, 1]), ([12, 7, 0, 1, 4, 5, 6, 7, 11], [7, 12]), ([2, 3, 0, 1, 2, 3, 4, 5, 6, 7, 8, 9, 10, 11, 12, 13], [2, 3]), ([14, 11, 13, 0, 1, 2, 3, 4, 5, 6, 7, 8, 9, 10, 11, 12, 13], [11, 14])])
def lnSwap.B0 : List Nat := [0, 0, 0, 0, 0, 0, 48, 112, 0, 0, 768, 1792, 4083, 8179, 16383, 32767]
theorem lnSwap.tab0 : rtab .any (opsOf Try.f49 0) = lnSwap.T0 := by kernel_rfl
theorem lnSwap.bits0 : waitsOk lnSwap.T0.2 lnSwap.B0 = true := by kernel_rfl

theorem run_store_op {P : Program} {a : Act} {oi : Oper} {t : TypeId} {x v : Nat} {p y : Value} {w w1 : World} (ho : oi.op = Op.store t (.tmp x) (.tmp v)) (e1 : a.tmps[x]? = some p) (e2 : a.tmps[v]? = some y) (h : (Instr.storeAt t p y).run P w = .ok () w1) : (execOp a.eval oi).run P w = .ok .skip w1 := by
  unfold execOp
  rw [ho]
  simp only [eval_of e1, eval_of e2, Sem.run_bind, Sem.run_pure, Result.andThen_ok, h]

set_option maxRecDepth 100000 in
set_option maxHeartbeats 2000000 in
theorem swap_any (g cap i j : Nat) (xs : List Wt) (x y : Wt) (w0 : World) (hi : i < xs.length) (hj : j < xs.length) (hx : xs[i] = x) (hy : xs[j] = y) (hQ : QB w0 g cap xs) :
    Calls Try.prog 49 #[.slice (some ⟨g, 0, none⟩) xs.length cap, .int .i64 (i : Int), .int .i64 (j : Int)] w0 fun e w' => e = .returned (.tuple #[]) ∧ QB w' g cap ((xs.set i y).set j x) ∧ w0.grownBy w' (some g) := by
  have Q0 := Aside0.mk hQ
  have ex := Aside0.mk hx
  have ey := Aside0.mk hy
  have B0 := Aside0.mk (show (0 : Int) ≤ (i : Int) by omega)
  have B1 := Aside0.mk (show (i : Int) < (xs.length : Int) by omega)
  have B2 := Aside0.mk (show (0 : Int) ≤ (j : Int) by omega)
  have B3 := Aside0.mk (show (j : Int) < (xs.length : Int) by omega)
  clear hQ hx hy
  go_enter Try.func49, Try.ntmps49
  go_wp2_with fail
  refine start_ (n := 16) (S := fun w' => True) (ds := []) #[false, false, false, false, false, false, false, false, false, false, false, false, false, false, false, false] (by kernel_rfl) rfl rfl trivial (fun hHeld => ?_)
  refine with_tabW lnSwap.tab0 lnSwap.bits0 (fun HT_ HW_ => ?_)
  have K : Aside0 (w0.grownBy w0.drew (some g)) := ⟨⟨rfl, rfl, rfl, Nat.le_refl _, fun _ _ _ => rfl⟩⟩
  have Q : Aside0 (QB w0.drew g cap xs) := ⟨Q0.out⟩
  generalize w0.drew = w1' at *
  refine inv_at [0, 1, 2, 3, 4, 5, 6, 7, 8, 9, 10, 11, 12, 13, 14, 15] (fun a0_ b a w' => a = putSel a0_ b [(0, 6, .slice (some ⟨g, 0, none⟩) xs.length cap), (1, 7, .int .i64 (i : Int)), (2, 8, .slice (some ⟨g, 0, none⟩) xs.length cap), (3, 9, .int .i64 (j : Int)), (4, 10, .slice (some ⟨g, 0, none⟩) xs.length cap), (5, 11, .int .i64 (j : Int)), (6, 12, .pointer (some ⟨g, j * 5, none⟩)), (7, 13, .agg #[.int .i64 y.src, .int .i64 y.dst, .string y.txt, .int .i64 y.due, .int .i64 y.num]), (8, 14, .slice (some ⟨g, 0, none⟩) xs.length cap), (9, 15, .int .i64 (i : Int)), (10, 16, .pointer (some ⟨g, i * 5, none⟩)), (11, 17, .agg #[.int .i64 x.src, .int .i64 x.dst, .string x.txt, .int .i64 x.due, .int .i64 x.num]), (12, 18, .pointer (some ⟨g, i * 5, none⟩)), (14, 19, .pointer (some ⟨g, j * 5, none⟩))] ∧ (w0.grownBy w' (some g)) ∧ (b 13 = false → QB w' g cap xs) ∧ (b 13 = true → b 15 = false → QB w' g cap (xs.set i y)) ∧ (b 13 = true → b 15 = true → QB w' g cap ((xs.set i y).set j x))) HT_.out HW_.out (by kernel_rfl) (by kernel_rfl) ?_ ?_ ?_
  · exact ⟨by simp only [putSel, Bool.false_eq_true, if_false], K.out, fun _ => Q.out, fun h_ => absurd h_ (by decide), fun h_ => absurd h_ (by decide)⟩
  · skip
    clear K Q
    refine steps_cons ?_ ?_
    · rintro b a w' ⟨ha, Q_K, Q_Q, Q_Q1, Q_Q2⟩ hb_ hon hoff
      refine ⟨_, rfl, fun K hK => ?_⟩
      have e0 : a.tmps[0]? = some (.slice (some ⟨g, 0, none⟩) xs.length cap) := by rw [ha]; exact (putSel_off rfl).trans rfl
      replace ha := Aside0.mk ha
      have K := Aside0.mk Q_K
      have Q := Aside0.mk (Q_Q (hoff 13 (by kernel_rfl)))
      refine value_ (w1 := w') (v := .slice (some ⟨g, 0, none⟩) xs.length cap) (by rfl) rfl ?_ ?_
      · go_simp
        (try simp only [i64_w])
        try rfl
      refine hK.out _ _ ⟨(by rw [ha.out]; exact putSel_upk 0 hb_ rfl rfl rfl), Q_K, Q_Q, fun h0_ _ => absurd ((hoff 13 (by kernel_rfl)).symm.trans h0_) (by decide), fun h0_ _ => absurd ((hoff 13 (by kernel_rfl)).symm.trans h0_) (by decide)⟩
    refine steps_cons ?_ ?_
    · rintro b a w' ⟨ha, Q_K, Q_Q, Q_Q1, Q_Q2⟩ hb_ hon hoff
      refine ⟨_, rfl, fun K hK => ?_⟩
      have e1 : a.tmps[1]? = some (.int .i64 (i : Int)) := by rw [ha]; exact (putSel_off rfl).trans rfl
      replace ha := Aside0.mk ha
      have K := Aside0.mk Q_K
      have Q := Aside0.mk (Q_Q (hoff 13 (by kernel_rfl)))
      refine value_ (w1 := w') (v := .int .i64 (i : Int)) (by rfl) rfl ?_ ?_
      · go_simp
        (try simp only [i64_w])
        try rfl
      refine hK.out _ _ ⟨(by rw [ha.out]; exact putSel_upk 1 hb_ rfl rfl rfl), Q_K, Q_Q, fun h0_ _ => absurd ((hoff 13 (by kernel_rfl)).symm.trans h0_) (by decide), fun h0_ _ => absurd ((hoff 13 (by kernel_rfl)).symm.trans h0_) (by decide)⟩
    refine steps_cons ?_ ?_
    · rintro b a w' ⟨ha, Q_K, Q_Q, Q_Q1, Q_Q2⟩ hb_ hon hoff
      refine ⟨_, rfl, fun K hK => ?_⟩
      have e0 : a.tmps[0]? = some (.slice (some ⟨g, 0, none⟩) xs.length cap) := by rw [ha]; exact (putSel_off rfl).trans rfl
      replace ha := Aside0.mk ha
      have K := Aside0.mk Q_K
      refine value_ (w1 := w') (v := .slice (some ⟨g, 0, none⟩) xs.length cap) (by rfl) rfl ?_ ?_
      · go_simp
        (try simp only [i64_w])
        try rfl
      refine hK.out _ _ ⟨(by rw [ha.out]; exact putSel_upk 2 hb_ rfl rfl rfl), Q_K, Q_Q, Q_Q1, fun _ h1_ => absurd ((hoff 15 (by kernel_rfl)).symm.trans h1_) (by decide)⟩
    refine steps_cons ?_ ?_
    · rintro b a w' ⟨ha, Q_K, Q_Q, Q_Q1, Q_Q2⟩ hb_ hon hoff
      refine ⟨_, rfl, fun K hK => ?_⟩
      have e2 : a.tmps[2]? = some (.int .i64 (j : Int)) := by rw [ha]; exact (putSel_off rfl).trans rfl
      replace ha := Aside0.mk ha
      have K := Aside0.mk Q_K
      refine value_ (w1 := w') (v := .int .i64 (j : Int)) (by rfl) rfl ?_ ?_
      · go_simp
        (try simp only [i64_w])
        try rfl
      refine hK.out _ _ ⟨(by rw [ha.out]; exact putSel_upk 3 hb_ rfl rfl rfl), Q_K, Q_Q, Q_Q1, fun _ h1_ => absurd ((hoff 15 (by kernel_rfl)).symm.trans h1_) (by decide)⟩
    refine steps_cons ?_ ?_
    · rintro b a w' ⟨ha, Q_K, Q_Q, Q_Q1, Q_Q2⟩ hb_ hon hoff
      refine ⟨_, rfl, fun K hK => ?_⟩
      have e0 : a.tmps[0]? = some (.slice (some ⟨g, 0, none⟩) xs.length cap) := by rw [ha]; exact (putSel_off rfl).trans rfl
      replace ha := Aside0.mk ha
      have K := Aside0.mk Q_K
      have Q := Aside0.mk (Q_Q (hoff 13 (by kernel_rfl)))
      refine value_ (w1 := w') (v := .slice (some ⟨g, 0, none⟩) xs.length cap) (by rfl) rfl ?_ ?_
      · go_simp
        (try simp only [i64_w])
        try rfl
      refine hK.out _ _ ⟨(by rw [ha.out]; exact putSel_upk 4 hb_ rfl rfl rfl), Q_K, Q_Q, fun h0_ _ => absurd ((hoff 13 (by kernel_rfl)).symm.trans h0_) (by decide), fun h0_ _ => absurd ((hoff 13 (by kernel_rfl)).symm.trans h0_) (by decide)⟩
    refine steps_cons ?_ ?_
    · rintro b a w' ⟨ha, Q_K, Q_Q, Q_Q1, Q_Q2⟩ hb_ hon hoff
      refine ⟨_, rfl, fun K hK => ?_⟩
      have e2 : a.tmps[2]? = some (.int .i64 (j : Int)) := by rw [ha]; exact (putSel_off rfl).trans rfl
      replace ha := Aside0.mk ha
      have K := Aside0.mk Q_K
      have Q := Aside0.mk (Q_Q (hoff 13 (by kernel_rfl)))
      refine value_ (w1 := w') (v := .int .i64 (j : Int)) (by rfl) rfl ?_ ?_
      · go_simp
        (try simp only [i64_w])
        try rfl
      refine hK.out _ _ ⟨(by rw [ha.out]; exact putSel_upk 5 hb_ rfl rfl rfl), Q_K, Q_Q, fun h0_ _ => absurd ((hoff 13 (by kernel_rfl)).symm.trans h0_) (by decide), fun h0_ _ => absurd ((hoff 13 (by kernel_rfl)).symm.trans h0_) (by decide)⟩
    refine steps_cons ?_ ?_
    · rintro b a w' ⟨ha, Q_K, Q_Q, Q_Q1, Q_Q2⟩ hb_ hon hoff
      refine ⟨_, rfl, fun K hK => ?_⟩
      have e10 : a.tmps[10]? = some (.slice (some ⟨g, 0, none⟩) xs.length cap) := by rw [ha]; exact putSel_on (e := (4, 10, .slice (some ⟨g, 0, none⟩) xs.length cap)) 4 rfl rfl (hon 4 (by kernel_rfl)) rfl
      have e11 : a.tmps[11]? = some (.int .i64 (j : Int)) := by rw [ha]; exact putSel_on (e := (5, 11, .int .i64 (j : Int))) 5 rfl rfl (hon 5 (by kernel_rfl)) rfl
      replace ha := Aside0.mk ha
      have K := Aside0.mk Q_K
      have Q := Aside0.mk (Q_Q (hoff 13 (by kernel_rfl)))
      have b0 := B0.out
      have b1 := B1.out
      have b2 := B2.out
      have b3 := B3.out
      refine value_ (w1 := w') (v := .pointer (some ⟨g, j * 5, none⟩)) (by rfl) rfl ?_ ?_
      · go_simp
        (try simp only [i64_w])
        try rfl
      refine hK.out _ _ ⟨(by rw [ha.out]; exact putSel_upk 6 hb_ rfl rfl rfl), Q_K, Q_Q, fun h0_ _ => absurd ((hoff 13 (by kernel_rfl)).symm.trans h0_) (by decide), fun h0_ _ => absurd ((hoff 13 (by kernel_rfl)).symm.trans h0_) (by decide)⟩
    refine steps_cons ?_ ?_
    · rintro b a w' ⟨ha, Q_K, Q_Q, Q_Q1, Q_Q2⟩ hb_ hon hoff
      refine ⟨_, rfl, fun K hK => ?_⟩
      have e12 : a.tmps[12]? = some (.pointer (some ⟨g, j * 5, none⟩)) := by rw [ha]; exact putSel_on (e := (6, 12, .pointer (some ⟨g, j * 5, none⟩))) 6 rfl rfl (hon 6 (by kernel_rfl)) rfl
      replace ha := Aside0.mk ha
      have K := Aside0.mk Q_K
      have Q := Aside0.mk (Q_Q (hoff 13 (by kernel_rfl)))
      have c0 : w'.cell? ⟨g, j * 5, none⟩ = some (.int .i64 y.src) := (Q.out.cell j 0 hj (by omega)).trans (by rw [ey.out]; rfl)
      have c1 : w'.cell? ⟨g, j * 5 + 1, none⟩ = some (.int .i64 y.dst) := (Q.out.cell j 1 hj (by omega)).trans (by rw [ey.out]; rfl)
      have c2 : w'.cell? ⟨g, j * 5 + 2, none⟩ = some (.string y.txt) := (Q.out.cell j 2 hj (by omega)).trans (by rw [ey.out]; rfl)
      have c3 : w'.cell? ⟨g, j * 5 + 3, none⟩ = some (.int .i64 y.due) := (Q.out.cell j 3 hj (by omega)).trans (by rw [ey.out]; rfl)
      have c4 : w'.cell? ⟨g, j * 5 + 4, none⟩ = some (.int .i64 y.num) := (Q.out.cell j 4 hj (by omega)).trans (by rw [ey.out]; rfl)
      refine value_ (w1 := w') (v := .agg #[.int .i64 y.src, .int .i64 y.dst, .string y.txt, .int .i64 y.due, .int .i64 y.num]) (by rfl) rfl ?_ ?_
      · go_simp
        (try simp only [i64_w])
        try rfl
      refine hK.out _ _ ⟨(by rw [ha.out]; exact putSel_upk 7 hb_ rfl rfl rfl), Q_K, Q_Q, fun h0_ _ => absurd ((hoff 13 (by kernel_rfl)).symm.trans h0_) (by decide), fun h0_ _ => absurd ((hoff 13 (by kernel_rfl)).symm.trans h0_) (by decide)⟩
    refine steps_cons ?_ ?_
    · rintro b a w' ⟨ha, Q_K, Q_Q, Q_Q1, Q_Q2⟩ hb_ hon hoff
      refine ⟨_, rfl, fun K hK => ?_⟩
      have e0 : a.tmps[0]? = some (.slice (some ⟨g, 0, none⟩) xs.length cap) := by rw [ha]; exact (putSel_off rfl).trans rfl
      replace ha := Aside0.mk ha
      have K := Aside0.mk Q_K
      have Q := Aside0.mk (Q_Q (hoff 13 (by kernel_rfl)))
      refine value_ (w1 := w') (v := .slice (some ⟨g, 0, none⟩) xs.length cap) (by rfl) rfl ?_ ?_
      · go_simp
        (try simp only [i64_w])
        try rfl
      refine hK.out _ _ ⟨(by rw [ha.out]; exact putSel_upk 8 hb_ rfl rfl rfl), Q_K, Q_Q, fun h0_ _ => absurd ((hoff 13 (by kernel_rfl)).symm.trans h0_) (by decide), fun h0_ _ => absurd ((hoff 13 (by kernel_rfl)).symm.trans h0_) (by decide)⟩
    refine steps_cons ?_ ?_
    · rintro b a w' ⟨ha, Q_K, Q_Q, Q_Q1, Q_Q2⟩ hb_ hon hoff
      refine ⟨_, rfl, fun K hK => ?_⟩
      have e1 : a.tmps[1]? = some (.int .i64 (i : Int)) := by rw [ha]; exact (putSel_off rfl).trans rfl
      replace ha := Aside0.mk ha
      have K := Aside0.mk Q_K
      have Q := Aside0.mk (Q_Q (hoff 13 (by kernel_rfl)))
      refine value_ (w1 := w') (v := .int .i64 (i : Int)) (by rfl) rfl ?_ ?_
      · go_simp
        (try simp only [i64_w])
        try rfl
      refine hK.out _ _ ⟨(by rw [ha.out]; exact putSel_upk 9 hb_ rfl rfl rfl), Q_K, Q_Q, fun h0_ _ => absurd ((hoff 13 (by kernel_rfl)).symm.trans h0_) (by decide), fun h0_ _ => absurd ((hoff 13 (by kernel_rfl)).symm.trans h0_) (by decide)⟩
    refine steps_cons ?_ ?_
    · rintro b a w' ⟨ha, Q_K, Q_Q, Q_Q1, Q_Q2⟩ hb_ hon hoff
      refine ⟨_, rfl, fun K hK => ?_⟩
      have e14 : a.tmps[14]? = some (.slice (some ⟨g, 0, none⟩) xs.length cap) := by rw [ha]; exact putSel_on (e := (8, 14, .slice (some ⟨g, 0, none⟩) xs.length cap)) 8 rfl rfl (hon 8 (by kernel_rfl)) rfl
      have e15 : a.tmps[15]? = some (.int .i64 (i : Int)) := by rw [ha]; exact putSel_on (e := (9, 15, .int .i64 (i : Int))) 9 rfl rfl (hon 9 (by kernel_rfl)) rfl
      replace ha := Aside0.mk ha
      have K := Aside0.mk Q_K
      have Q := Aside0.mk (Q_Q (hoff 13 (by kernel_rfl)))
      have b0 := B0.out
      have b1 := B1.out
      have b2 := B2.out
      have b3 := B3.out
      refine value_ (w1 := w') (v := .pointer (some ⟨g, i * 5, none⟩)) (by rfl) rfl ?_ ?_
      · go_simp
        (try simp only [i64_w])
        try rfl
      refine hK.out _ _ ⟨(by rw [ha.out]; exact putSel_upk 10 hb_ rfl rfl rfl), Q_K, Q_Q, fun h0_ _ => absurd ((hoff 13 (by kernel_rfl)).symm.trans h0_) (by decide), fun h0_ _ => absurd ((hoff 13 (by kernel_rfl)).symm.trans h0_) (by decide)⟩
    refine steps_cons ?_ ?_
    · rintro b a w' ⟨ha, Q_K, Q_Q, Q_Q1, Q_Q2⟩ hb_ hon hoff
      refine ⟨_, rfl, fun K hK => ?_⟩
      have e16 : a.tmps[16]? = some (.pointer (some ⟨g, i * 5, none⟩)) := by rw [ha]; exact putSel_on (e := (10, 16, .pointer (some ⟨g, i * 5, none⟩))) 10 rfl rfl (hon 10 (by kernel_rfl)) rfl
      replace ha := Aside0.mk ha
      have K := Aside0.mk Q_K
      have Q := Aside0.mk (Q_Q (hoff 13 (by kernel_rfl)))
      have c0 : w'.cell? ⟨g, i * 5, none⟩ = some (.int .i64 x.src) := (Q.out.cell i 0 hi (by omega)).trans (by rw [ex.out]; rfl)
      have c1 : w'.cell? ⟨g, i * 5 + 1, none⟩ = some (.int .i64 x.dst) := (Q.out.cell i 1 hi (by omega)).trans (by rw [ex.out]; rfl)
      have c2 : w'.cell? ⟨g, i * 5 + 2, none⟩ = some (.string x.txt) := (Q.out.cell i 2 hi (by omega)).trans (by rw [ex.out]; rfl)
      have c3 : w'.cell? ⟨g, i * 5 + 3, none⟩ = some (.int .i64 x.due) := (Q.out.cell i 3 hi (by omega)).trans (by rw [ex.out]; rfl)
      have c4 : w'.cell? ⟨g, i * 5 + 4, none⟩ = some (.int .i64 x.num) := (Q.out.cell i 4 hi (by omega)).trans (by rw [ex.out]; rfl)
      refine value_ (w1 := w') (v := .agg #[.int .i64 x.src, .int .i64 x.dst, .string x.txt, .int .i64 x.due, .int .i64 x.num]) (by rfl) rfl ?_ ?_
      · go_simp
        (try simp only [i64_w])
        try rfl
      refine hK.out _ _ ⟨(by rw [ha.out]; exact putSel_upk 11 hb_ rfl rfl rfl), Q_K, Q_Q, fun h0_ _ => absurd ((hoff 13 (by kernel_rfl)).symm.trans h0_) (by decide), fun h0_ _ => absurd ((hoff 13 (by kernel_rfl)).symm.trans h0_) (by decide)⟩
    refine steps_cons ?_ ?_
    · rintro b a w' ⟨ha, Q_K, Q_Q, Q_Q1, Q_Q2⟩ hb_ hon hoff
      refine ⟨_, rfl, fun K hK => ?_⟩
      have e6 : a.tmps[6]? = some (.slice (some ⟨g, 0, none⟩) xs.length cap) := by rw [ha]; exact putSel_on (e := (0, 6, .slice (some ⟨g, 0, none⟩) xs.length cap)) 0 rfl rfl (hon 0 (by kernel_rfl)) rfl
      have e7 : a.tmps[7]? = some (.int .i64 (i : Int)) := by rw [ha]; exact putSel_on (e := (1, 7, .int .i64 (i : Int))) 1 rfl rfl (hon 1 (by kernel_rfl)) rfl
      replace ha := Aside0.mk ha
      have K := Aside0.mk Q_K
      have Q := Aside0.mk (Q_Q (hoff 13 (by kernel_rfl)))
      have b0 := B0.out
      have b1 := B1.out
      have b2 := B2.out
      have b3 := B3.out
      refine value_ (w1 := w') (v := .pointer (some ⟨g, i * 5, none⟩)) (by rfl) rfl ?_ ?_
      · go_simp
        (try simp only [i64_w])
        try rfl
      refine hK.out _ _ ⟨(by rw [ha.out]; exact putSel_upk 12 hb_ rfl rfl rfl), Q_K, Q_Q, fun h0_ _ => absurd ((hoff 13 (by kernel_rfl)).symm.trans h0_) (by decide), fun h0_ _ => absurd ((hoff 13 (by kernel_rfl)).symm.trans h0_) (by decide)⟩
    refine steps_cons ?_ ?_
    · rintro b a w' ⟨ha, Q_K, Q_Q, Q_Q1, Q_Q2⟩ hb_ hon hoff
      refine ⟨_, rfl, fun K hK => ?_⟩
      have e18 : a.tmps[18]? = some (.pointer (some ⟨g, i * 5, none⟩)) := by rw [ha]; exact putSel_on (e := (12, 18, .pointer (some ⟨g, i * 5, none⟩))) 12 rfl rfl (hon 12 (by kernel_rfl)) rfl
      have e13 : a.tmps[13]? = some (.agg #[.int .i64 y.src, .int .i64 y.dst, .string y.txt, .int .i64 y.due, .int .i64 y.num]) := by rw [ha]; exact putSel_on (e := (7, 13, .agg #[.int .i64 y.src, .int .i64 y.dst, .string y.txt, .int .i64 y.due, .int .i64 y.num])) 7 rfl rfl (hon 7 (by kernel_rfl)) rfl
      replace ha := Aside0.mk ha
      have K := Aside0.mk Q_K
      have Q := Aside0.mk (Q_Q hb_)
      have hs := Q.out.store i y hi
      have hr : (Instr.storeAt 72 (.pointer (some ⟨g, i * 5, none⟩)) (.agg #[.int .i64 y.src, .int .i64 y.dst, .string y.txt, .int .i64 y.due, .int .i64 y.num])).run Try.prog w' = .ok () (w'.setCells g (i * 5) y.cells) := hs.1
      refine skip_ (w1 := w'.setCells g (i * 5) y.cells) (by rfl) rfl ?_ ?_
      · exact run_store_op (by rfl) e18 e13 hr
      refine hK.out _ _ ⟨(by rw [ha.out]; exact putSel_none (v := undef) rfl), K.out.trans' (kept_setCells _ g _ _), fun h0_ => absurd ((up_self b 13).symm.trans h0_) (by decide), fun _ _ => hs.2, fun _ h1_ => absurd ((hoff 15 (by kernel_rfl)).symm.trans h1_) (by decide)⟩
    refine steps_cons ?_ ?_
    · rintro b a w' ⟨ha, Q_K, Q_Q, Q_Q1, Q_Q2⟩ hb_ hon hoff
      refine ⟨_, rfl, fun K hK => ?_⟩
      have e8 : a.tmps[8]? = some (.slice (some ⟨g, 0, none⟩) xs.length cap) := by rw [ha]; exact putSel_on (e := (2, 8, .slice (some ⟨g, 0, none⟩) xs.length cap)) 2 rfl rfl (hon 2 (by kernel_rfl)) rfl
      have e9 : a.tmps[9]? = some (.int .i64 (j : Int)) := by rw [ha]; exact putSel_on (e := (3, 9, .int .i64 (j : Int))) 3 rfl rfl (hon 3 (by kernel_rfl)) rfl
      replace ha := Aside0.mk ha
      have K := Aside0.mk Q_K
      have Q1 := Aside0.mk (Q_Q1 (hon 13 (by kernel_rfl)) (hoff 15 (by kernel_rfl)))
      have b0 := B0.out
      have b1 := B1.out
      have b2 := B2.out
      have b3 := B3.out
      refine value_ (w1 := w') (v := .pointer (some ⟨g, j * 5, none⟩)) (by rfl) rfl ?_ ?_
      · go_simp
        (try simp only [i64_w])
        try rfl
      refine hK.out _ _ ⟨(by rw [ha.out]; exact putSel_upk 13 hb_ rfl rfl rfl), Q_K, fun h0_ => absurd ((hon 13 (by kernel_rfl)).symm.trans h0_) (by decide), Q_Q1, fun _ h1_ => absurd ((hoff 15 (by kernel_rfl)).symm.trans h1_) (by decide)⟩
    refine steps_cons ?_ ?_
    · rintro b a w' ⟨ha, Q_K, Q_Q, Q_Q1, Q_Q2⟩ hb_ hon hoff
      refine ⟨_, rfl, fun K hK => ?_⟩
      have e19 : a.tmps[19]? = some (.pointer (some ⟨g, j * 5, none⟩)) := by rw [ha]; exact putSel_on (e := (14, 19, .pointer (some ⟨g, j * 5, none⟩))) 13 rfl rfl (hon 14 (by kernel_rfl)) rfl
      have e17 : a.tmps[17]? = some (.agg #[.int .i64 x.src, .int .i64 x.dst, .string x.txt, .int .i64 x.due, .int .i64 x.num]) := by rw [ha]; exact putSel_on (e := (11, 17, .agg #[.int .i64 x.src, .int .i64 x.dst, .string x.txt, .int .i64 x.due, .int .i64 x.num])) 11 rfl rfl (hon 11 (by kernel_rfl)) rfl
      replace ha := Aside0.mk ha
      have K := Aside0.mk Q_K
      have Q1 := Aside0.mk (Q_Q1 (hon 13 (by kernel_rfl)) hb_)
      have hs := Q1.out.store j x (by rw [List.length_set]; exact hj)
      have hr : (Instr.storeAt 72 (.pointer (some ⟨g, j * 5, none⟩)) (.agg #[.int .i64 x.src, .int .i64 x.dst, .string x.txt, .int .i64 x.due, .int .i64 x.num])).run Try.prog w' = .ok () (w'.setCells g (j * 5) x.cells) := hs.1
      refine skip_ (w1 := w'.setCells g (j * 5) x.cells) (by rfl) rfl ?_ ?_
      · exact run_store_op (by rfl) e19 e17 hr
      refine hK.out _ _ ⟨(by rw [ha.out]; exact putSel_none (v := undef) rfl), K.out.trans' (kept_setCells _ g _ _), fun h0_ => absurd ((hon 13 (by kernel_rfl)).symm.trans h0_) (by decide), fun _ h1_ => absurd ((up_self b 15).symm.trans h1_) (by decide), fun _ _ => hs.2⟩
    exact steps_nil
  · rintro b a w' hall ⟨ha, Q_K, Q_Q, Q_Q1, Q_Q2⟩
    clear K Q
    have hb0_ := hall 0 (by kernel_rfl)
    have hb1_ := hall 1 (by kernel_rfl)
    have hb2_ := hall 2 (by kernel_rfl)
    have hb3_ := hall 3 (by kernel_rfl)
    have hb4_ := hall 4 (by kernel_rfl)
    have hb5_ := hall 5 (by kernel_rfl)
    have hb6_ := hall 6 (by kernel_rfl)
    have hb7_ := hall 7 (by kernel_rfl)
    have hb8_ := hall 8 (by kernel_rfl)
    have hb9_ := hall 9 (by kernel_rfl)
    have hb10_ := hall 10 (by kernel_rfl)
    have hb11_ := hall 11 (by kernel_rfl)
    have hb12_ := hall 12 (by kernel_rfl)
    have hb13_ := hall 13 (by kernel_rfl)
    have hb14_ := hall 14 (by kernel_rfl)
    have hb15_ := hall 15 (by kernel_rfl)
    subst ha
    simp only [putSel, hb0_, hb1_, hb2_, hb3_, hb4_, hb5_, hb6_, hb7_, hb8_, hb9_, hb10_, hb11_, hb12_, hb13_, hb14_, hb15_, if_true, Act.put, List.setIfInBounds_toArray, List.set_cons_zero, List.set_cons_succ]
    have K := Aside0.mk Q_K
    clear Q_K
    clear Q_Q
    clear Q_Q1
    have Q2 := Aside0.mk (Q_Q2 hb13_ hb15_)
    clear Q_Q2
    clear hall hb0_ hb1_ hb2_ hb3_ hb4_ hb5_ hb6_ hb7_ hb8_ hb9_ hb10_ hb11_ hb12_ hb13_ hb14_ hb15_
    go_wp2
    go_end0
    exact ⟨rfl, Q2.out, K.out⟩

end Go.Proofs.Ytemcbaacefjfnaa
