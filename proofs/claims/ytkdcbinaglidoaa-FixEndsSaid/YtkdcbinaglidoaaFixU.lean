/- The sanity of package abugidalaw01 returns true. -/
import Derived.Test.YtkdcbinaglidoaaFixE
set_option linter.unusedVariables false
set_option linter.unusedSimpArgs false
namespace Go.Proofs.Ytkdcbinaglidoaa
open Go.RowKit

set_option maxHeartbeats 400000 in
theorem is_any (a : Int) (ok : Bool) (n : Int) (w : World) :
    Calls Try.prog 30 #[.int .i64 a, .bool ok, .int .i64 n] w fun e w' => e = .returned (.bool (ok && a == n)) ∧ w = w' := by
  cases ok
  · go_enter Try.func30, Try.ntmps30
    go_wp2
    go_ret
    exact ⟨rfl, rfl⟩
  · go_enter Try.func30, Try.ntmps30
    go_wp2
    go_ret
    exact ⟨rfl, rfl⟩

theorem san_r1 (w : World) : Calls Try.prog 13 #[.int .i64 7, .int .i64 2] w fun e w' => e = .returned (.tuple #[.int .i64 4, .bool true]) ∧ Below w.heap.size w w' := by have h := round_any 7 2 w (by decide) (by decide) (by decide) (by decide); rwa [show rnd 7 2 = 4 by decide] at h
theorem san_r2 (w : World) : Calls Try.prog 13 #[.int .i64 (-7), .int .i64 2] w fun e w' => e = .returned (.tuple #[.int .i64 (-3), .bool true]) ∧ Below w.heap.size w w' := by have h := round_any (-7) 2 w (by decide) (by decide) (by decide) (by decide); rwa [show rnd (-7) 2 = -3 by decide] at h
theorem san_d (w : World) : Calls Try.prog 14 #[.int .i64 (-7), .int .i64 2] w fun e w' => e = .returned (.tuple #[.int .i64 (-4), .bool true]) ∧ Below w.heap.size w w' := by have h := down_any (-7) 2 w (by decide) (by decide) (by decide) (by decide); rwa [show (-7 : Int) / 2 = -4 by decide] at h
theorem san_u (w : World) : Calls Try.prog 15 #[.int .i64 (-7), .int .i64 2] w fun e w' => e = .returned (.tuple #[.int .i64 (-3), .bool true]) ∧ Below w.heap.size w w' := by have h := up_any (-7) 2 w (by decide) (by decide) (by decide) (by decide); rwa [show rup (-7) 2 = -3 by decide] at h
theorem san_r3 (w : World) : Calls Try.prog 13 #[.int .i64 5, .int .i64 0] w fun e w' => e = .returned (.tuple #[.int .i64 0, .bool false]) ∧ Below w.heap.size w w' := round_none 5 0 w (by decide)
theorem san_m1 (w : World) : Calls Try.prog 19 #[.int .i64 96, .int .i64 96] w fun e w' => e = .returned (.tuple #[.int .i64 144, .bool true]) ∧ Below w.heap.size w w' := by have h := mul_any 96 96 w; rwa [show mulQ 96 96 = 144 by decide, show mulOk 96 96 = true by decide] at h
theorem san_m2 (w : World) : Calls Try.prog 19 #[.int .i64 (-1), .int .i64 32] w fun e w' => e = .returned (.tuple #[.int .i64 0, .bool true]) ∧ Below w.heap.size w w' := by have h := mul_any (-1) 32 w; rwa [show mulQ (-1) 32 = 0 by decide, show mulOk (-1) 32 = true by decide] at h
theorem san_m3 (w : World) : Calls Try.prog 19 #[.int .i64 2097152, .int .i64 1] w fun e w' => e = .returned (.tuple #[.int .i64 0, .bool false]) ∧ Below w.heap.size w w' := by have h := mul_any 2097152 1 w; rwa [show mulQ 2097152 1 = 0 by decide, show mulOk 2097152 1 = false by decide] at h
theorem san_p1 (w : World) : Calls Try.prog 24 #[.int .i64 10, .agg #[.int .i64 1, .int .i64 3]] w fun e w' => e = .returned (.tuple #[.int .i64 213, .bool true]) ∧ Below w.heap.size w w' := by have h := part_any 10 1 3 w; rwa [show partQ 10 1 3 = 213 by decide +kernel, show partOk 10 1 3 = true by decide +kernel] at h
theorem san_p2 (w : World) : Calls Try.prog 24 #[.int .i64 (-10), .agg #[.int .i64 1, .int .i64 3]] w fun e w' => e = .returned (.tuple #[.int .i64 (-213), .bool true]) ∧ Below w.heap.size w w' := by have h := part_any (-10) 1 3 w; rwa [show partQ (-10) 1 3 = (-213) by decide +kernel, show partOk (-10) 1 3 = true by decide +kernel] at h
theorem san_t1 (w : World) : Calls Try.prog 26 #[.agg #[.int .i64 1, .int .i64 2], .agg #[.int .i64 2, .int .i64 3]] w fun e w' => e = .returned (.tuple #[.agg #[.int .i64 1, .int .i64 3], .bool true]) ∧ Below w.heap.size w w' := by have h := times_any 1 2 2 3 w; rwa [show timesN 1 2 2 3 = 1 by decide +kernel, show timesD 1 2 2 3 = 3 by decide +kernel, show timesOk 1 2 2 3 = true by decide +kernel] at h
theorem san_t2 (w : World) : Calls Try.prog 26 #[.agg #[.int .i64 2, .int .i64 4], .agg #[.int .i64 1, .int .i64 2]] w fun e w' => e = .returned (.tuple #[.agg #[.int .i64 0, .int .i64 0], .bool false]) ∧ Below w.heap.size w w' := by have h := times_any 2 4 1 2 w; rwa [show timesN 2 4 1 2 = 0 by decide +kernel, show timesD 2 4 1 2 = 0 by decide +kernel, show timesOk 2 4 1 2 = false by decide +kernel] at h
theorem san_l1 (w : World) : Calls Try.prog 28 #[.int .i64 5, .agg #[.int .i64 0, .int .i64 0], .agg #[.int .i64 10, .int .i64 3]] w fun e w' => e = .returned (.tuple #[.int .i64 2, .bool true]) ∧ Below w.heap.size w w' := by have h := line_any 5 0 0 10 3 w; rwa [show lineQ 5 0 0 10 3 = 2 by decide +kernel, show lineOk 5 0 0 10 3 = true by decide +kernel] at h
theorem san_l2 (w : World) : Calls Try.prog 28 #[.int .i64 10, .agg #[.int .i64 0, .int .i64 0], .agg #[.int .i64 10, .int .i64 3]] w fun e w' => e = .returned (.tuple #[.int .i64 3, .bool true]) ∧ Below w.heap.size w w' := by have h := line_any 10 0 0 10 3 w; rwa [show lineQ 10 0 0 10 3 = 3 by decide +kernel, show lineOk 10 0 0 10 3 = true by decide +kernel] at h
theorem san_l3 (w : World) : Calls Try.prog 28 #[.int .i64 11, .agg #[.int .i64 0, .int .i64 0], .agg #[.int .i64 10, .int .i64 3]] w fun e w' => e = .returned (.tuple #[.int .i64 0, .bool false]) ∧ Below w.heap.size w w' := by have h := line_any 11 0 0 10 3 w; rwa [show lineQ 11 0 0 10 3 = 0 by decide +kernel, show lineOk 11 0 0 10 3 = false by decide +kernel] at h

set_option maxRecDepth 100000 in
set_option maxHeartbeats 4000000 in
theorem sanity_any (w : World) : Calls Try.prog 11 #[] w fun e w' => e = .returned (.bool true) ∧ Below w.heap.size w w' := by
  have HB := Below.refl w.heap.size w
  go_enter Try.func11, Try.ntmps11
  go_wp2_with fail
  refine (san_r1 _).mono ?_
  rintro e w1 ⟨rfl, hb⟩
  replace HB := bthen' HB hb
  clear hb
  go_wp2_with fail
  refine (san_r2 _).mono ?_
  rintro e w2 ⟨rfl, hb⟩
  replace HB := bthen' HB hb
  clear hb
  go_wp2_with fail
  refine (san_d _).mono ?_
  rintro e w3 ⟨rfl, hb⟩
  replace HB := bthen' HB hb
  clear hb
  go_wp2_with fail
  refine (san_u _).mono ?_
  rintro e w4 ⟨rfl, hb⟩
  replace HB := bthen' HB hb
  clear hb
  go_wp2_with fail
  refine (san_r3 _).mono ?_
  rintro e w5 ⟨rfl, hb⟩
  replace HB := bthen' HB hb
  clear hb
  go_wp2_with fail
  refine (is_any _ _ _ _).mono ?_
  rintro e w' ⟨rfl, rfl⟩
  go_wp2_with fail
  refine (is_any _ _ _ _).mono ?_
  rintro e w' ⟨rfl, rfl⟩
  go_wp2_with fail
  refine (is_any _ _ _ _).mono ?_
  rintro e w' ⟨rfl, rfl⟩
  go_wp2_with fail
  refine (is_any _ _ _ _).mono ?_
  rintro e w' ⟨rfl, rfl⟩
  go_wp2_with fail
  refine (san_m1 _).mono ?_
  rintro e w6 ⟨rfl, hb⟩
  replace HB := bthen' HB hb
  clear hb
  go_wp2_with fail
  refine (san_m2 _).mono ?_
  rintro e w7 ⟨rfl, hb⟩
  replace HB := bthen' HB hb
  clear hb
  go_wp2_with fail
  refine (san_m3 _).mono ?_
  rintro e w8 ⟨rfl, hb⟩
  replace HB := bthen' HB hb
  clear hb
  go_wp2_with fail
  refine (is_any _ _ _ _).mono ?_
  rintro e w' ⟨rfl, rfl⟩
  go_wp2_with fail
  refine (is_any _ _ _ _).mono ?_
  rintro e w' ⟨rfl, rfl⟩
  go_wp2_with fail
  have B1 := Blk.new w8 #[.int .i64 1, .int .i64 3] 31 rfl
  replace HB := balloc HB (.cells #[.int .i64 1, .int .i64 3] 31)
  refine (san_p1 _).mono ?_
  rintro e w9 ⟨rfl, hb⟩
  replace HB := bthen' HB hb
  replace B1 := B1.below hb
  clear hb
  generalize w8.heap.size = g1 at *
  have k1 : w9.cell? ⟨g1, 0, none⟩ = some (.int .i64 1) := B1.cell 0
  have k2 : w9.cell? ⟨g1, 1, none⟩ = some (.int .i64 3) := B1.cell 1
  go_wp2_with fail
  clear k1 k2
  refine (san_p2 _).mono ?_
  rintro e w10 ⟨rfl, hb⟩
  replace HB := bthen' HB hb
  replace B1 := B1.below hb
  clear hb
  go_wp2_with fail
  refine (san_t1 _).mono ?_
  rintro e w11 ⟨rfl, hb⟩
  replace HB := bthen' HB hb
  replace B1 := B1.below hb
  clear hb
  go_wp2_with fail
  have B2 := Blk.new w11 #[.int .i64 1, .int .i64 3] 31 rfl
  replace HB := balloc HB (.cells #[.int .i64 1, .int .i64 3] 31)
  replace B1 := B1.alloc (.cells #[.int .i64 1, .int .i64 3] 31)
  refine (san_t2 _).mono ?_
  rintro e w12 ⟨rfl, hb⟩
  replace HB := bthen' HB hb
  replace B1 := B1.below hb
  replace B2 := B2.below hb
  clear hb
  generalize w11.heap.size = g2 at *
  have k1 : w12.cell? ⟨g1, 0, none⟩ = some (.int .i64 1) := B1.cell 0
  have k2 : w12.cell? ⟨g1, 1, none⟩ = some (.int .i64 3) := B1.cell 1
  have k3 : w12.cell? ⟨g2, 0, none⟩ = some (.int .i64 1) := B2.cell 0
  have k4 : w12.cell? ⟨g2, 1, none⟩ = some (.int .i64 3) := B2.cell 1
  go_wp2_with fail
  refine (is_any _ _ _ _).mono ?_
  rintro e w' ⟨rfl, rfl⟩
  go_wp2_with fail
  refine (is_any _ _ _ _).mono ?_
  rintro e w' ⟨rfl, rfl⟩
  go_wp2_with fail
  refine (san_l1 _).mono ?_
  rintro e w13 ⟨rfl, hb⟩
  replace HB := bthen' HB hb
  clear hb
  go_wp2_with fail
  refine (san_l2 _).mono ?_
  rintro e w14 ⟨rfl, hb⟩
  replace HB := bthen' HB hb
  clear hb
  go_wp2_with fail
  refine (san_l3 _).mono ?_
  rintro e w15 ⟨rfl, hb⟩
  replace HB := bthen' HB hb
  clear hb
  go_wp2_with fail
  refine (is_any _ _ _ _).mono ?_
  rintro e w' ⟨rfl, rfl⟩
  go_wp2_with fail
  refine (is_any _ _ _ _).mono ?_
  rintro e w' ⟨rfl, rfl⟩
  go_wp2_with fail
  refine (clamp_any 5 1 3 _).mono ?_
  rintro e w' ⟨rfl, rfl⟩
  rw [show clampI 5 1 3 = 3 by decide]
  go_wp2_with fail
  refine (clamp_any 5 9 3 _).mono ?_
  rintro e w' ⟨rfl, rfl⟩
  rw [show clampI 5 9 3 = 9 by decide]
  go_wp2
  go_ret
  exact ⟨rfl, HB⟩

end Go.Proofs.Ytkdcbinaglidoaa
