/- The walk of FixParts. -/
import Derived.Test.YtkdcbinaglidoaaFixU
import Derived.Test.YtkdcbinaglidoaaFixPure
import Derived.OpenShut
set_option linter.unusedVariables false
set_option linter.unusedSimpArgs false
namespace Go.Proofs.Ytkdcbinaglidoaa
open Go.RowKit

theorem tmod_small (a : Int) {m : Int} (h : 1 ≤ m) : -m < a.tmod m ∧ a.tmod m < m := ⟨(mod_eq h).1, (mod_eq h).2.1⟩

set_option maxRecDepth 100000 in
set_option maxHeartbeats 4000000 in
theorem fixParts_lt (a b q r lo hi : Int) (w : World) (ea : a.tmod 1000000 = lo) (eb : b.tmod 1000000 = hi) (l1 : -1000000 < lo) (l2 : hi < 1000000) (l3 : lo < hi) :
    Calls Try.prog 8 #[.int .i64 a, .int .i64 b, .agg #[.int .i64 q, .int .i64 r]] w fun e w' => e = .returned (.bool true) ∧ Below w.heap.size w w' := by
  have A1 := Blk.new w #[.int .i64 q, .int .i64 r] 23 rfl
  have HB := balloc (Below.refl w.heap.size w) (.cells #[.int .i64 q, .int .i64 r] 23)
  obtain ⟨mr, md⟩ := made_right q r
  obtain ⟨d1, d2, n1, n2, -⟩ := rightB_true.1 mr
  have MR := Lib.hid mr
  clear mr d2
  go_enter Try.func8, Try.ntmps8
  go_wp2_with fail
  refine (sanity_any _).mono ?_
  rintro e w1 ⟨rfl, hb⟩
  replace HB := bthen' HB hb
  replace A1 := A1.below hb
  clear hb
  have k1 : w1.cell? ⟨w.heap.size, 0, none⟩ = some (.int .i64 q) := A1.cell 0
  have k2 : w1.cell? ⟨w.heap.size, 1, none⟩ = some (.int .i64 r) := A1.cell 1
  go_wp2_with fail
  clear ea eb k1 k2
  refine (rmade_any _ _ _).mono ?_
  rintro e w2 ⟨rfl, hb⟩
  replace HB := bthen' HB hb
  clear hb A1
  generalize madeN q r = N at *
  generalize madeD q r = D at *
  have S1 : Blk (w2.alloc (.cells #[.int .i64 N, .int .i64 D] 31)) w2.heap.size #[.int .i64 N, .int .i64 D] 31 := Blk.new w2 _ _ rfl
  replace HB := balloc HB (.cells #[.int .i64 N, .int .i64 D] 31)
  by_cases hz : N = D
  · subst hz
    obtain rfl : N = 1 := (other_right MR.out).1 rfl
    obtain ⟨u1, u2⟩ := part_one (a := lo) (by omega)
    obtain ⟨u3, u4⟩ := part_one (a := hi) (by omega)
    obtain ⟨u5, u6⟩ := part_zero (a := lo) (by omega)
    have Hu1 := Lib.hid u1
    clear u1
    have Hu2 := Lib.hid u2
    clear u2
    have Hu3 := Lib.hid u3
    clear u3
    have Hu4 := Lib.hid u4
    clear u4
    have Hu5 := Lib.hid u5
    clear u5
    have Hu6 := Lib.hid u6
    clear u6
    go_wp2_with fail
    have S2 : Blk ((w2.alloc (.cells #[.int .i64 1, .int .i64 1] 31)).alloc (.cells #[.int .i64 0, .int .i64 1] 31)) (w2.heap.size + 1) #[.int .i64 0, .int .i64 1] 31 := Blk.new _ _ _ (by simp)
    replace HB := balloc HB (.cells #[.int .i64 0, .int .i64 1] 31)
    replace S1 := S1.alloc (.cells #[.int .i64 0, .int .i64 1] 31)
    refine (part_any _ _ _ _).mono ?_
    rintro e w3 ⟨rfl, hb⟩
    rw [Hu1.out, Hu2.out]
    replace HB := bthen' HB hb
    replace S1 := S1.below hb
    replace S2 := S2.below hb
    clear hb
    have k1 : w3.cell? ⟨w2.heap.size, 0, none⟩ = some (.int .i64 1) := S1.cell 0
    have k2 : w3.cell? ⟨w2.heap.size, 1, none⟩ = some (.int .i64 1) := S1.cell 1
    have k3 : w3.cell? ⟨w2.heap.size + 1, 0, none⟩ = some (.int .i64 0) := S2.cell 0
    have k4 : w3.cell? ⟨w2.heap.size + 1, 1, none⟩ = some (.int .i64 1) := S2.cell 1
    go_wp2_with fail
    clear k1 k2 k3 k4
    refine (part_any _ _ _ _).mono ?_
    rintro e w4 ⟨rfl, hb⟩
    rw [Hu3.out, Hu4.out]
    replace HB := bthen' HB hb
    replace S1 := S1.below hb
    replace S2 := S2.below hb
    clear hb
    have k1 : w4.cell? ⟨w2.heap.size, 0, none⟩ = some (.int .i64 1) := S1.cell 0
    have k2 : w4.cell? ⟨w2.heap.size, 1, none⟩ = some (.int .i64 1) := S1.cell 1
    have k3 : w4.cell? ⟨w2.heap.size + 1, 0, none⟩ = some (.int .i64 0) := S2.cell 0
    have k4 : w4.cell? ⟨w2.heap.size + 1, 1, none⟩ = some (.int .i64 1) := S2.cell 1
    go_wp2_with fail
    clear k1 k2 k3 k4
    refine (part_any _ _ _ _).mono ?_
    rintro e w5 ⟨rfl, hb⟩
    rw [Hu5.out, Hu6.out]
    replace HB := bthen' HB hb
    replace S1 := S1.below hb
    replace S2 := S2.below hb
    clear hb
    have k1 : w5.cell? ⟨w2.heap.size, 0, none⟩ = some (.int .i64 1) := S1.cell 0
    have k2 : w5.cell? ⟨w2.heap.size, 1, none⟩ = some (.int .i64 1) := S1.cell 1
    have k3 : w5.cell? ⟨w2.heap.size + 1, 0, none⟩ = some (.int .i64 0) := S2.cell 0
    have k4 : w5.cell? ⟨w2.heap.size + 1, 1, none⟩ = some (.int .i64 1) := S2.cell 1
    go_wp2_with fail
    clear k1 k2 k3 k4
    refine (part_any _ _ _ _).mono ?_
    rintro e w6 ⟨rfl, hb⟩
    rw [Hu1.out, Hu2.out]
    replace HB := bthen' HB hb
    replace S1 := S1.below hb
    replace S2 := S2.below hb
    clear hb
    have k1 : w6.cell? ⟨w2.heap.size, 0, none⟩ = some (.int .i64 1) := S1.cell 0
    have k2 : w6.cell? ⟨w2.heap.size, 1, none⟩ = some (.int .i64 1) := S1.cell 1
    have k3 : w6.cell? ⟨w2.heap.size + 1, 0, none⟩ = some (.int .i64 0) := S2.cell 0
    have k4 : w6.cell? ⟨w2.heap.size + 1, 1, none⟩ = some (.int .i64 1) := S2.cell 1
    have e1 : (64 * lo != 64 * lo) = false := by simp
    by_cases h0 : 0 ≤ lo
    · skip
      go_wp2
      all_goals
        go_ret
        exact ⟨rfl, HB⟩
    · skip
      go_wp2
      all_goals
        go_ret
        exact ⟨rfl, HB⟩
  · have z0 : (D - N == 0) = false := by simp; omega
    obtain ⟨u1, -⟩ := part_is (a := lo) (by omega) MR.out
    obtain ⟨u3, -⟩ := part_is (a := hi) (by omega) MR.out
    obtain ⟨u5, -⟩ := part_is (a := lo) (by omega) ((other_right MR.out).2 hz)
    obtain ⟨v1, v2⟩ := part_one (a := lo) (by omega)
    obtain ⟨f1, f2, f3, f4, f5⟩ := part_facts (a := lo) (b := hi) (by omega) (by omega) (by omega) MR.out hz
    have Hu1 := Lib.hid u1
    clear u1
    have Hu3 := Lib.hid u3
    clear u3
    have Hu5 := Lib.hid u5
    clear u5
    have Hv1 := Lib.hid v1
    clear v1
    have Hv2 := Lib.hid v2
    clear v2
    go_wp2_with fail
    have S2 : Blk ((w2.alloc (.cells #[.int .i64 N, .int .i64 D] 31)).alloc (.cells #[.int .i64 (D - N), .int .i64 D] 31)) (w2.heap.size + 1) #[.int .i64 (D - N), .int .i64 D] 31 := Blk.new _ _ _ (by simp)
    replace HB := balloc HB (.cells #[.int .i64 (D - N), .int .i64 D] 31)
    replace S1 := S1.alloc (.cells #[.int .i64 (D - N), .int .i64 D] 31)
    refine (part_any _ _ _ _).mono ?_
    rintro e w3 ⟨rfl, hb⟩
    rw [Hu1.out]
    replace HB := bthen' HB hb
    replace S1 := S1.below hb
    replace S2 := S2.below hb
    clear hb
    have k1 : w3.cell? ⟨w2.heap.size, 0, none⟩ = some (.int .i64 N) := S1.cell 0
    have k2 : w3.cell? ⟨w2.heap.size, 1, none⟩ = some (.int .i64 D) := S1.cell 1
    have k3 : w3.cell? ⟨w2.heap.size + 1, 0, none⟩ = some (.int .i64 (D - N)) := S2.cell 0
    have k4 : w3.cell? ⟨w2.heap.size + 1, 1, none⟩ = some (.int .i64 D) := S2.cell 1
    go_wp2_with fail
    clear k1 k2 k3 k4
    refine (part_any _ _ _ _).mono ?_
    rintro e w4 ⟨rfl, hb⟩
    rw [Hu3.out]
    replace HB := bthen' HB hb
    replace S1 := S1.below hb
    replace S2 := S2.below hb
    clear hb
    have k1 : w4.cell? ⟨w2.heap.size, 0, none⟩ = some (.int .i64 N) := S1.cell 0
    have k2 : w4.cell? ⟨w2.heap.size, 1, none⟩ = some (.int .i64 D) := S1.cell 1
    have k3 : w4.cell? ⟨w2.heap.size + 1, 0, none⟩ = some (.int .i64 (D - N)) := S2.cell 0
    have k4 : w4.cell? ⟨w2.heap.size + 1, 1, none⟩ = some (.int .i64 D) := S2.cell 1
    go_wp2_with fail
    clear k1 k2 k3 k4
    refine (part_any _ _ _ _).mono ?_
    rintro e w5 ⟨rfl, hb⟩
    rw [Hu5.out]
    replace HB := bthen' HB hb
    replace S1 := S1.below hb
    replace S2 := S2.below hb
    clear hb
    have k1 : w5.cell? ⟨w2.heap.size, 0, none⟩ = some (.int .i64 N) := S1.cell 0
    have k2 : w5.cell? ⟨w2.heap.size, 1, none⟩ = some (.int .i64 D) := S1.cell 1
    have k3 : w5.cell? ⟨w2.heap.size + 1, 0, none⟩ = some (.int .i64 (D - N)) := S2.cell 0
    have k4 : w5.cell? ⟨w2.heap.size + 1, 1, none⟩ = some (.int .i64 D) := S2.cell 1
    go_wp2_with fail
    clear k1 k2 k3 k4
    refine (part_any _ _ _ _).mono ?_
    rintro e w6 ⟨rfl, hb⟩
    rw [Hv1.out, Hv2.out]
    replace HB := bthen' HB hb
    replace S1 := S1.below hb
    replace S2 := S2.below hb
    clear hb
    have k1 : w6.cell? ⟨w2.heap.size, 0, none⟩ = some (.int .i64 N) := S1.cell 0
    have k2 : w6.cell? ⟨w2.heap.size, 1, none⟩ = some (.int .i64 D) := S1.cell 1
    have k3 : w6.cell? ⟨w2.heap.size + 1, 0, none⟩ = some (.int .i64 (D - N)) := S2.cell 0
    have k4 : w6.cell? ⟨w2.heap.size + 1, 1, none⟩ = some (.int .i64 D) := S2.cell 1
    generalize partQ lo (D - N) D = z at *
    generalize partQ lo N D = x at *
    generalize partQ hi N D = y at *
    have e1 : (64 * lo != 64 * lo) = false := by simp
    by_cases h0 : 0 ≤ lo
    · obtain ⟨g1, g2⟩ := f2 h0
      go_wp2
      all_goals
        go_ret
        exact ⟨rfl, HB⟩
    · obtain ⟨g1, g2⟩ := f3 (by omega)
      go_wp2
      all_goals
        go_ret
        exact ⟨rfl, HB⟩

set_option maxRecDepth 100000 in
set_option maxHeartbeats 4000000 in
theorem fixParts_eq (a b q r lo : Int) (w : World) (ea : a.tmod 1000000 = lo) (eb : b.tmod 1000000 = lo) (l1 : -1000000 < lo) (l2 : lo < 1000000)  :
    Calls Try.prog 8 #[.int .i64 a, .int .i64 b, .agg #[.int .i64 q, .int .i64 r]] w fun e w' => e = .returned (.bool true) ∧ Below w.heap.size w w' := by
  have A1 := Blk.new w #[.int .i64 q, .int .i64 r] 23 rfl
  have HB := balloc (Below.refl w.heap.size w) (.cells #[.int .i64 q, .int .i64 r] 23)
  obtain ⟨mr, md⟩ := made_right q r
  obtain ⟨d1, d2, n1, n2, -⟩ := rightB_true.1 mr
  have MR := Lib.hid mr
  clear mr d2
  go_enter Try.func8, Try.ntmps8
  go_wp2_with fail
  refine (sanity_any _).mono ?_
  rintro e w1 ⟨rfl, hb⟩
  replace HB := bthen' HB hb
  replace A1 := A1.below hb
  clear hb
  have k1 : w1.cell? ⟨w.heap.size, 0, none⟩ = some (.int .i64 q) := A1.cell 0
  have k2 : w1.cell? ⟨w.heap.size, 1, none⟩ = some (.int .i64 r) := A1.cell 1
  go_wp2_with fail
  clear ea eb k1 k2
  refine (rmade_any _ _ _).mono ?_
  rintro e w2 ⟨rfl, hb⟩
  replace HB := bthen' HB hb
  clear hb A1
  generalize madeN q r = N at *
  generalize madeD q r = D at *
  have S1 : Blk (w2.alloc (.cells #[.int .i64 N, .int .i64 D] 31)) w2.heap.size #[.int .i64 N, .int .i64 D] 31 := Blk.new w2 _ _ rfl
  replace HB := balloc HB (.cells #[.int .i64 N, .int .i64 D] 31)
  by_cases hz : N = D
  · subst hz
    obtain rfl : N = 1 := (other_right MR.out).1 rfl
    obtain ⟨u1, u2⟩ := part_one (a := lo) (by omega)
    obtain ⟨u3, u4⟩ := part_one (a := lo) (by omega)
    obtain ⟨u5, u6⟩ := part_zero (a := lo) (by omega)
    have Hu1 := Lib.hid u1
    clear u1
    have Hu2 := Lib.hid u2
    clear u2
    have Hu3 := Lib.hid u3
    clear u3
    have Hu4 := Lib.hid u4
    clear u4
    have Hu5 := Lib.hid u5
    clear u5
    have Hu6 := Lib.hid u6
    clear u6
    go_wp2_with fail
    have S2 : Blk ((w2.alloc (.cells #[.int .i64 1, .int .i64 1] 31)).alloc (.cells #[.int .i64 0, .int .i64 1] 31)) (w2.heap.size + 1) #[.int .i64 0, .int .i64 1] 31 := Blk.new _ _ _ (by simp)
    replace HB := balloc HB (.cells #[.int .i64 0, .int .i64 1] 31)
    replace S1 := S1.alloc (.cells #[.int .i64 0, .int .i64 1] 31)
    refine (part_any _ _ _ _).mono ?_
    rintro e w3 ⟨rfl, hb⟩
    rw [Hu1.out, Hu2.out]
    replace HB := bthen' HB hb
    replace S1 := S1.below hb
    replace S2 := S2.below hb
    clear hb
    have k1 : w3.cell? ⟨w2.heap.size, 0, none⟩ = some (.int .i64 1) := S1.cell 0
    have k2 : w3.cell? ⟨w2.heap.size, 1, none⟩ = some (.int .i64 1) := S1.cell 1
    have k3 : w3.cell? ⟨w2.heap.size + 1, 0, none⟩ = some (.int .i64 0) := S2.cell 0
    have k4 : w3.cell? ⟨w2.heap.size + 1, 1, none⟩ = some (.int .i64 1) := S2.cell 1
    go_wp2_with fail
    clear k1 k2 k3 k4
    refine (part_any _ _ _ _).mono ?_
    rintro e w4 ⟨rfl, hb⟩
    rw [Hu3.out, Hu4.out]
    replace HB := bthen' HB hb
    replace S1 := S1.below hb
    replace S2 := S2.below hb
    clear hb
    have k1 : w4.cell? ⟨w2.heap.size, 0, none⟩ = some (.int .i64 1) := S1.cell 0
    have k2 : w4.cell? ⟨w2.heap.size, 1, none⟩ = some (.int .i64 1) := S1.cell 1
    have k3 : w4.cell? ⟨w2.heap.size + 1, 0, none⟩ = some (.int .i64 0) := S2.cell 0
    have k4 : w4.cell? ⟨w2.heap.size + 1, 1, none⟩ = some (.int .i64 1) := S2.cell 1
    go_wp2_with fail
    clear k1 k2 k3 k4
    refine (part_any _ _ _ _).mono ?_
    rintro e w5 ⟨rfl, hb⟩
    rw [Hu5.out, Hu6.out]
    replace HB := bthen' HB hb
    replace S1 := S1.below hb
    replace S2 := S2.below hb
    clear hb
    have k1 : w5.cell? ⟨w2.heap.size, 0, none⟩ = some (.int .i64 1) := S1.cell 0
    have k2 : w5.cell? ⟨w2.heap.size, 1, none⟩ = some (.int .i64 1) := S1.cell 1
    have k3 : w5.cell? ⟨w2.heap.size + 1, 0, none⟩ = some (.int .i64 0) := S2.cell 0
    have k4 : w5.cell? ⟨w2.heap.size + 1, 1, none⟩ = some (.int .i64 1) := S2.cell 1
    go_wp2_with fail
    clear k1 k2 k3 k4
    refine (part_any _ _ _ _).mono ?_
    rintro e w6 ⟨rfl, hb⟩
    rw [Hu1.out, Hu2.out]
    replace HB := bthen' HB hb
    replace S1 := S1.below hb
    replace S2 := S2.below hb
    clear hb
    have k1 : w6.cell? ⟨w2.heap.size, 0, none⟩ = some (.int .i64 1) := S1.cell 0
    have k2 : w6.cell? ⟨w2.heap.size, 1, none⟩ = some (.int .i64 1) := S1.cell 1
    have k3 : w6.cell? ⟨w2.heap.size + 1, 0, none⟩ = some (.int .i64 0) := S2.cell 0
    have k4 : w6.cell? ⟨w2.heap.size + 1, 1, none⟩ = some (.int .i64 1) := S2.cell 1
    have e1 : (64 * lo != 64 * lo) = false := by simp
    by_cases h0 : 0 ≤ lo
    · skip
      go_wp2
      all_goals
        go_ret
        exact ⟨rfl, HB⟩
    · skip
      go_wp2
      all_goals
        go_ret
        exact ⟨rfl, HB⟩
  · have z0 : (D - N == 0) = false := by simp; omega
    obtain ⟨u1, -⟩ := part_is (a := lo) (by omega) MR.out
    obtain ⟨u3, -⟩ := part_is (a := lo) (by omega) MR.out
    obtain ⟨u5, -⟩ := part_is (a := lo) (by omega) ((other_right MR.out).2 hz)
    obtain ⟨v1, v2⟩ := part_one (a := lo) (by omega)
    obtain ⟨f1, f2, f3, f4, f5⟩ := part_facts (a := lo) (b := lo) (by omega) (by omega) (by omega) MR.out hz
    have Hu1 := Lib.hid u1
    clear u1
    have Hu3 := Lib.hid u3
    clear u3
    have Hu5 := Lib.hid u5
    clear u5
    have Hv1 := Lib.hid v1
    clear v1
    have Hv2 := Lib.hid v2
    clear v2
    go_wp2_with fail
    have S2 : Blk ((w2.alloc (.cells #[.int .i64 N, .int .i64 D] 31)).alloc (.cells #[.int .i64 (D - N), .int .i64 D] 31)) (w2.heap.size + 1) #[.int .i64 (D - N), .int .i64 D] 31 := Blk.new _ _ _ (by simp)
    replace HB := balloc HB (.cells #[.int .i64 (D - N), .int .i64 D] 31)
    replace S1 := S1.alloc (.cells #[.int .i64 (D - N), .int .i64 D] 31)
    refine (part_any _ _ _ _).mono ?_
    rintro e w3 ⟨rfl, hb⟩
    rw [Hu1.out]
    replace HB := bthen' HB hb
    replace S1 := S1.below hb
    replace S2 := S2.below hb
    clear hb
    have k1 : w3.cell? ⟨w2.heap.size, 0, none⟩ = some (.int .i64 N) := S1.cell 0
    have k2 : w3.cell? ⟨w2.heap.size, 1, none⟩ = some (.int .i64 D) := S1.cell 1
    have k3 : w3.cell? ⟨w2.heap.size + 1, 0, none⟩ = some (.int .i64 (D - N)) := S2.cell 0
    have k4 : w3.cell? ⟨w2.heap.size + 1, 1, none⟩ = some (.int .i64 D) := S2.cell 1
    go_wp2_with fail
    clear k1 k2 k3 k4
    refine (part_any _ _ _ _).mono ?_
    rintro e w4 ⟨rfl, hb⟩
    rw [Hu3.out]
    replace HB := bthen' HB hb
    replace S1 := S1.below hb
    replace S2 := S2.below hb
    clear hb
    have k1 : w4.cell? ⟨w2.heap.size, 0, none⟩ = some (.int .i64 N) := S1.cell 0
    have k2 : w4.cell? ⟨w2.heap.size, 1, none⟩ = some (.int .i64 D) := S1.cell 1
    have k3 : w4.cell? ⟨w2.heap.size + 1, 0, none⟩ = some (.int .i64 (D - N)) := S2.cell 0
    have k4 : w4.cell? ⟨w2.heap.size + 1, 1, none⟩ = some (.int .i64 D) := S2.cell 1
    go_wp2_with fail
    clear k1 k2 k3 k4
    refine (part_any _ _ _ _).mono ?_
    rintro e w5 ⟨rfl, hb⟩
    rw [Hu5.out]
    replace HB := bthen' HB hb
    replace S1 := S1.below hb
    replace S2 := S2.below hb
    clear hb
    have k1 : w5.cell? ⟨w2.heap.size, 0, none⟩ = some (.int .i64 N) := S1.cell 0
    have k2 : w5.cell? ⟨w2.heap.size, 1, none⟩ = some (.int .i64 D) := S1.cell 1
    have k3 : w5.cell? ⟨w2.heap.size + 1, 0, none⟩ = some (.int .i64 (D - N)) := S2.cell 0
    have k4 : w5.cell? ⟨w2.heap.size + 1, 1, none⟩ = some (.int .i64 D) := S2.cell 1
    go_wp2_with fail
    clear k1 k2 k3 k4
    refine (part_any _ _ _ _).mono ?_
    rintro e w6 ⟨rfl, hb⟩
    rw [Hv1.out, Hv2.out]
    replace HB := bthen' HB hb
    replace S1 := S1.below hb
    replace S2 := S2.below hb
    clear hb
    have k1 : w6.cell? ⟨w2.heap.size, 0, none⟩ = some (.int .i64 N) := S1.cell 0
    have k2 : w6.cell? ⟨w2.heap.size, 1, none⟩ = some (.int .i64 D) := S1.cell 1
    have k3 : w6.cell? ⟨w2.heap.size + 1, 0, none⟩ = some (.int .i64 (D - N)) := S2.cell 0
    have k4 : w6.cell? ⟨w2.heap.size + 1, 1, none⟩ = some (.int .i64 D) := S2.cell 1
    generalize partQ lo (D - N) D = z at *
    generalize partQ lo N D = x at *
    have e1 : (64 * lo != 64 * lo) = false := by simp
    by_cases h0 : 0 ≤ lo
    · obtain ⟨g1, g2⟩ := f2 h0
      go_wp2
      all_goals
        go_ret
        exact ⟨rfl, HB⟩
    · obtain ⟨g1, g2⟩ := f3 (by omega)
      go_wp2
      all_goals
        go_ret
        exact ⟨rfl, HB⟩

set_option maxRecDepth 100000 in
set_option maxHeartbeats 4000000 in
theorem fixParts_gt (a b q r lo hi : Int) (w : World) (ea : a.tmod 1000000 = hi) (eb : b.tmod 1000000 = lo) (l1 : -1000000 < lo) (l2 : hi < 1000000) (l3 : lo < hi) :
    Calls Try.prog 8 #[.int .i64 a, .int .i64 b, .agg #[.int .i64 q, .int .i64 r]] w fun e w' => e = .returned (.bool true) ∧ Below w.heap.size w w' := by
  have A1 := Blk.new w #[.int .i64 q, .int .i64 r] 23 rfl
  have HB := balloc (Below.refl w.heap.size w) (.cells #[.int .i64 q, .int .i64 r] 23)
  obtain ⟨mr, md⟩ := made_right q r
  obtain ⟨d1, d2, n1, n2, -⟩ := rightB_true.1 mr
  have MR := Lib.hid mr
  clear mr d2
  go_enter Try.func8, Try.ntmps8
  go_wp2_with fail
  refine (sanity_any _).mono ?_
  rintro e w1 ⟨rfl, hb⟩
  replace HB := bthen' HB hb
  replace A1 := A1.below hb
  clear hb
  have k1 : w1.cell? ⟨w.heap.size, 0, none⟩ = some (.int .i64 q) := A1.cell 0
  have k2 : w1.cell? ⟨w.heap.size, 1, none⟩ = some (.int .i64 r) := A1.cell 1
  go_wp2_with fail
  clear ea eb k1 k2
  refine (rmade_any _ _ _).mono ?_
  rintro e w2 ⟨rfl, hb⟩
  replace HB := bthen' HB hb
  clear hb A1
  generalize madeN q r = N at *
  generalize madeD q r = D at *
  have S1 : Blk (w2.alloc (.cells #[.int .i64 N, .int .i64 D] 31)) w2.heap.size #[.int .i64 N, .int .i64 D] 31 := Blk.new w2 _ _ rfl
  replace HB := balloc HB (.cells #[.int .i64 N, .int .i64 D] 31)
  by_cases hz : N = D
  · subst hz
    obtain rfl : N = 1 := (other_right MR.out).1 rfl
    obtain ⟨u1, u2⟩ := part_one (a := lo) (by omega)
    obtain ⟨u3, u4⟩ := part_one (a := hi) (by omega)
    obtain ⟨u5, u6⟩ := part_zero (a := lo) (by omega)
    have Hu1 := Lib.hid u1
    clear u1
    have Hu2 := Lib.hid u2
    clear u2
    have Hu3 := Lib.hid u3
    clear u3
    have Hu4 := Lib.hid u4
    clear u4
    have Hu5 := Lib.hid u5
    clear u5
    have Hu6 := Lib.hid u6
    clear u6
    go_wp2_with fail
    have S2 : Blk ((w2.alloc (.cells #[.int .i64 1, .int .i64 1] 31)).alloc (.cells #[.int .i64 0, .int .i64 1] 31)) (w2.heap.size + 1) #[.int .i64 0, .int .i64 1] 31 := Blk.new _ _ _ (by simp)
    replace HB := balloc HB (.cells #[.int .i64 0, .int .i64 1] 31)
    replace S1 := S1.alloc (.cells #[.int .i64 0, .int .i64 1] 31)
    refine (part_any _ _ _ _).mono ?_
    rintro e w3 ⟨rfl, hb⟩
    rw [Hu1.out, Hu2.out]
    replace HB := bthen' HB hb
    replace S1 := S1.below hb
    replace S2 := S2.below hb
    clear hb
    have k1 : w3.cell? ⟨w2.heap.size, 0, none⟩ = some (.int .i64 1) := S1.cell 0
    have k2 : w3.cell? ⟨w2.heap.size, 1, none⟩ = some (.int .i64 1) := S1.cell 1
    have k3 : w3.cell? ⟨w2.heap.size + 1, 0, none⟩ = some (.int .i64 0) := S2.cell 0
    have k4 : w3.cell? ⟨w2.heap.size + 1, 1, none⟩ = some (.int .i64 1) := S2.cell 1
    go_wp2_with fail
    clear k1 k2 k3 k4
    refine (part_any _ _ _ _).mono ?_
    rintro e w4 ⟨rfl, hb⟩
    rw [Hu3.out, Hu4.out]
    replace HB := bthen' HB hb
    replace S1 := S1.below hb
    replace S2 := S2.below hb
    clear hb
    have k1 : w4.cell? ⟨w2.heap.size, 0, none⟩ = some (.int .i64 1) := S1.cell 0
    have k2 : w4.cell? ⟨w2.heap.size, 1, none⟩ = some (.int .i64 1) := S1.cell 1
    have k3 : w4.cell? ⟨w2.heap.size + 1, 0, none⟩ = some (.int .i64 0) := S2.cell 0
    have k4 : w4.cell? ⟨w2.heap.size + 1, 1, none⟩ = some (.int .i64 1) := S2.cell 1
    go_wp2_with fail
    clear k1 k2 k3 k4
    refine (part_any _ _ _ _).mono ?_
    rintro e w5 ⟨rfl, hb⟩
    rw [Hu5.out, Hu6.out]
    replace HB := bthen' HB hb
    replace S1 := S1.below hb
    replace S2 := S2.below hb
    clear hb
    have k1 : w5.cell? ⟨w2.heap.size, 0, none⟩ = some (.int .i64 1) := S1.cell 0
    have k2 : w5.cell? ⟨w2.heap.size, 1, none⟩ = some (.int .i64 1) := S1.cell 1
    have k3 : w5.cell? ⟨w2.heap.size + 1, 0, none⟩ = some (.int .i64 0) := S2.cell 0
    have k4 : w5.cell? ⟨w2.heap.size + 1, 1, none⟩ = some (.int .i64 1) := S2.cell 1
    go_wp2_with fail
    clear k1 k2 k3 k4
    refine (part_any _ _ _ _).mono ?_
    rintro e w6 ⟨rfl, hb⟩
    rw [Hu1.out, Hu2.out]
    replace HB := bthen' HB hb
    replace S1 := S1.below hb
    replace S2 := S2.below hb
    clear hb
    have k1 : w6.cell? ⟨w2.heap.size, 0, none⟩ = some (.int .i64 1) := S1.cell 0
    have k2 : w6.cell? ⟨w2.heap.size, 1, none⟩ = some (.int .i64 1) := S1.cell 1
    have k3 : w6.cell? ⟨w2.heap.size + 1, 0, none⟩ = some (.int .i64 0) := S2.cell 0
    have k4 : w6.cell? ⟨w2.heap.size + 1, 1, none⟩ = some (.int .i64 1) := S2.cell 1
    have e1 : (64 * lo != 64 * lo) = false := by simp
    by_cases h0 : 0 ≤ lo
    · skip
      go_wp2
      all_goals
        go_ret
        exact ⟨rfl, HB⟩
    · skip
      go_wp2
      all_goals
        go_ret
        exact ⟨rfl, HB⟩
  · have z0 : (D - N == 0) = false := by simp; omega
    obtain ⟨u1, -⟩ := part_is (a := lo) (by omega) MR.out
    obtain ⟨u3, -⟩ := part_is (a := hi) (by omega) MR.out
    obtain ⟨u5, -⟩ := part_is (a := lo) (by omega) ((other_right MR.out).2 hz)
    obtain ⟨v1, v2⟩ := part_one (a := lo) (by omega)
    obtain ⟨f1, f2, f3, f4, f5⟩ := part_facts (a := lo) (b := hi) (by omega) (by omega) (by omega) MR.out hz
    have Hu1 := Lib.hid u1
    clear u1
    have Hu3 := Lib.hid u3
    clear u3
    have Hu5 := Lib.hid u5
    clear u5
    have Hv1 := Lib.hid v1
    clear v1
    have Hv2 := Lib.hid v2
    clear v2
    go_wp2_with fail
    have S2 : Blk ((w2.alloc (.cells #[.int .i64 N, .int .i64 D] 31)).alloc (.cells #[.int .i64 (D - N), .int .i64 D] 31)) (w2.heap.size + 1) #[.int .i64 (D - N), .int .i64 D] 31 := Blk.new _ _ _ (by simp)
    replace HB := balloc HB (.cells #[.int .i64 (D - N), .int .i64 D] 31)
    replace S1 := S1.alloc (.cells #[.int .i64 (D - N), .int .i64 D] 31)
    refine (part_any _ _ _ _).mono ?_
    rintro e w3 ⟨rfl, hb⟩
    rw [Hu1.out]
    replace HB := bthen' HB hb
    replace S1 := S1.below hb
    replace S2 := S2.below hb
    clear hb
    have k1 : w3.cell? ⟨w2.heap.size, 0, none⟩ = some (.int .i64 N) := S1.cell 0
    have k2 : w3.cell? ⟨w2.heap.size, 1, none⟩ = some (.int .i64 D) := S1.cell 1
    have k3 : w3.cell? ⟨w2.heap.size + 1, 0, none⟩ = some (.int .i64 (D - N)) := S2.cell 0
    have k4 : w3.cell? ⟨w2.heap.size + 1, 1, none⟩ = some (.int .i64 D) := S2.cell 1
    go_wp2_with fail
    clear k1 k2 k3 k4
    refine (part_any _ _ _ _).mono ?_
    rintro e w4 ⟨rfl, hb⟩
    rw [Hu3.out]
    replace HB := bthen' HB hb
    replace S1 := S1.below hb
    replace S2 := S2.below hb
    clear hb
    have k1 : w4.cell? ⟨w2.heap.size, 0, none⟩ = some (.int .i64 N) := S1.cell 0
    have k2 : w4.cell? ⟨w2.heap.size, 1, none⟩ = some (.int .i64 D) := S1.cell 1
    have k3 : w4.cell? ⟨w2.heap.size + 1, 0, none⟩ = some (.int .i64 (D - N)) := S2.cell 0
    have k4 : w4.cell? ⟨w2.heap.size + 1, 1, none⟩ = some (.int .i64 D) := S2.cell 1
    go_wp2_with fail
    clear k1 k2 k3 k4
    refine (part_any _ _ _ _).mono ?_
    rintro e w5 ⟨rfl, hb⟩
    rw [Hu5.out]
    replace HB := bthen' HB hb
    replace S1 := S1.below hb
    replace S2 := S2.below hb
    clear hb
    have k1 : w5.cell? ⟨w2.heap.size, 0, none⟩ = some (.int .i64 N) := S1.cell 0
    have k2 : w5.cell? ⟨w2.heap.size, 1, none⟩ = some (.int .i64 D) := S1.cell 1
    have k3 : w5.cell? ⟨w2.heap.size + 1, 0, none⟩ = some (.int .i64 (D - N)) := S2.cell 0
    have k4 : w5.cell? ⟨w2.heap.size + 1, 1, none⟩ = some (.int .i64 D) := S2.cell 1
    go_wp2_with fail
    clear k1 k2 k3 k4
    refine (part_any _ _ _ _).mono ?_
    rintro e w6 ⟨rfl, hb⟩
    rw [Hv1.out, Hv2.out]
    replace HB := bthen' HB hb
    replace S1 := S1.below hb
    replace S2 := S2.below hb
    clear hb
    have k1 : w6.cell? ⟨w2.heap.size, 0, none⟩ = some (.int .i64 N) := S1.cell 0
    have k2 : w6.cell? ⟨w2.heap.size, 1, none⟩ = some (.int .i64 D) := S1.cell 1
    have k3 : w6.cell? ⟨w2.heap.size + 1, 0, none⟩ = some (.int .i64 (D - N)) := S2.cell 0
    have k4 : w6.cell? ⟨w2.heap.size + 1, 1, none⟩ = some (.int .i64 D) := S2.cell 1
    generalize partQ lo (D - N) D = z at *
    generalize partQ lo N D = x at *
    generalize partQ hi N D = y at *
    have e1 : (64 * lo != 64 * lo) = false := by simp
    by_cases h0 : 0 ≤ lo
    · obtain ⟨g1, g2⟩ := f2 h0
      go_wp2
      all_goals
        go_ret
        exact ⟨rfl, HB⟩
    · obtain ⟨g1, g2⟩ := f3 (by omega)
      go_wp2
      all_goals
        go_ret
        exact ⟨rfl, HB⟩

theorem fixParts_walk (a b q r : Int) (w : World) (wa : (Lit.int .i64 a).wf = true) (wb : (Lit.int .i64 b).wf = true) (wq : (Lit.int .i64 q).wf = true) (wr : (Lit.int .i64 r).wf = true) :
    Calls Try.prog 8 #[.int .i64 a, .int .i64 b, .agg #[.int .i64 q, .int .i64 r]] w fun e w' => e = .returned (.bool true) ∧ Below w.heap.size w w' := by
  obtain ⟨a1, a2⟩ := tmod_small a (m := 1000000) (by omega)
  obtain ⟨b1, b2⟩ := tmod_small b (m := 1000000) (by omega)
  rcases Int.lt_trichotomy (a.tmod 1000000) (b.tmod 1000000) with h | h | h
  · exact fixParts_lt a b q r _ _ w rfl rfl a1 b2 h
  · exact fixParts_eq a b q r _ w rfl h.symm a1 a2
  · exact fixParts_gt a b q r _ _ w rfl rfl b1 a2 h

end Go.Proofs.Ytkdcbinaglidoaa
