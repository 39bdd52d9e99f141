/- The walk of FixRounds. -/
import Derived.Test.YtkdcbinaglidoaaFixU
import Derived.Test.YtkdcbinaglidoaaFixPure
import Derived.OpenShut
set_option linter.unusedVariables false
set_option linter.unusedSimpArgs false
namespace Go.Proofs.Ytkdcbinaglidoaa
open Go.RowKit

theorem emod_bounds (n : Int) {m : Int} (h : 1 ≤ m) : 0 ≤ n % m ∧ n % m < m := ⟨Int.emod_nonneg _ (by omega), Int.emod_lt_of_pos _ (by omega)⟩

set_option maxRecDepth 100000 in
set_option maxHeartbeats 4000000 in
theorem fixRounds_walk (n d : Int) (w : World) (wn : (Lit.int .i64 n).wf = true) (wd : (Lit.int .i64 d).wf = true) :
    Calls Try.prog 3 #[.int .i64 n, .int .i64 d] w fun e w' => e = .returned (.bool true) ∧ Below w.heap.size w w' := by
  obtain ⟨n1, n2⟩ := bounds_i64 wn
  obtain ⟨d1, d2⟩ := bounds_i64 wd
  clear wn wd
  have HB := Below.refl w.heap.size w
  go_enter Try.func3, Try.ntmps3
  go_wp2_with fail
  refine (sanity_any _).mono ?_
  rintro e w1 ⟨rfl, hb⟩
  replace HB := bthen' HB hb
  clear hb
  obtain ⟨u1, u2⟩ := emod_bounds d (m := 200) (by omega)
  obtain ⟨v1, v2⟩ := emod_bounds n (m := 4000) (by omega)
  obtain ⟨x1, x2⟩ := emod_bounds d (m := 130) (by omega)
  go_wp2_with fail
  refine (rmod_any _ _ _ (by omega) (by omega)).mono ?_
  rintro e w' ⟨rfl, rfl⟩
  go_wp2_with fail
  refine (rmod_any _ _ _ (by omega) (by omega)).mono ?_
  rintro e w' ⟨rfl, rfl⟩
  go_wp2_with fail
  refine (rmod_any _ _ _ (by omega) (by omega)).mono ?_
  rintro e w' ⟨rfl, rfl⟩
  have e1 : d % 200 - 3 ≤ 200 := by omega
  have e2 : -3 ≤ d % 200 - 3 := by omega
  have e3 : n % 4000 - 2000 ≤ 2000 := by omega
  have e4 : -2000 ≤ n % 4000 - 2000 := by omega
  have e5 : d % 130 - 1 ≤ 130 := by omega
  have e6 : -1 ≤ d % 130 - 1 := by omega
  -- LOOP
  go_wp2_with fail
  have R := Blk.new w1 #[.int .i64 n, .int .i64 d, .int .i64 n, .int .i64 (d % 200 - 3), .int .i64 (n % 4000 - 2000), .int .i64 (d % 130 - 1)] 23 rfl
  replace HB := balloc HB (.cells #[.int .i64 n, .int .i64 d, .int .i64 n, .int .i64 (d % 200 - 3), .int .i64 (n % 4000 - 2000), .int .i64 (d % 130 - 1)] 23)
  generalize hg : w1.heap.size = g at *
  clear hg
  generalize w1.alloc _ = w2 at *
  have HR := Lib.hid R
  have HH := Lib.hid HB
  clear R HB
  go_loopw [38] (fun i wr => ∃ k : Int, (k = 0 ∨ k = 1 ∨ k = 2 ∨ k = 3) ∧ i = .int .i64 k ∧ Hid (Blk wr g #[.int .i64 n, .int .i64 d, .int .i64 n, .int .i64 (d % 200 - 3), .int .i64 (n % 4000 - 2000), .int .i64 (d % 130 - 1)] 23) ∧ Hid (Below w.heap.size w wr)) (fun i _ => (3 - intOf i).toNat)
  case atStart => exact ⟨0, .inl rfl, rfl, HR, HH⟩
  case round =>
    clear HR HH
    obtain ⟨k, hk, rfl, R0, B0⟩ := hrel
    have R := R0.out
    have HB := B0.out
    clear R0 B0
    rcases hk with rfl | rfl | rfl | rfl
    · by_cases hq : d < 1
      · skip
        have c1 : wr.cell? ⟨g, 0, none⟩ = some (.int .i64 n) := R.cell 0
        have c2 : wr.cell? ⟨g, 1, none⟩ = some (.int .i64 d) := R.cell 1
        go_wp2_with fail
        clear c1 c2
        have X : Blk (wr.alloc (.cells #[.int .i64 n, .int .i64 d] 23)) wr.heap.size #[.int .i64 n, .int .i64 d] 23 := Blk.new wr _ _ rfl
        replace HB := balloc HB (.cells #[.int .i64 n, .int .i64 d] 23)
        replace R := R.alloc (.cells #[.int .i64 n, .int .i64 d] 23)
        generalize wr.heap.size = g7 at *
        generalize wr.alloc _ = v0 at *
        refine (round_none _ _ _ hq).mono ?_
        rintro e v1 ⟨rfl, hb⟩
        replace HB := bthen' HB hb
        replace R := R.below hb
        replace X := X.below hb
        clear hb
        have k1 : v1.cell? ⟨g7, 0, none⟩ = some (.int .i64 n) := X.cell 0
        have k2 : v1.cell? ⟨g7, 1, none⟩ = some (.int .i64 d) := X.cell 1
        go_wp2_with fail
        clear k1 k2
        refine (down_none _ _ _ hq).mono ?_
        rintro e v2 ⟨rfl, hb⟩
        replace HB := bthen' HB hb
        replace R := R.below hb
        replace X := X.below hb
        clear hb
        have k1 : v2.cell? ⟨g7, 0, none⟩ = some (.int .i64 n) := X.cell 0
        have k2 : v2.cell? ⟨g7, 1, none⟩ = some (.int .i64 d) := X.cell 1
        go_wp2_with fail
        clear k1 k2
        refine (up_none _ _ _ hq).mono ?_
        rintro e v3 ⟨rfl, hb⟩
        replace HB := bthen' HB hb
        replace R := R.below hb
        replace X := X.below hb
        clear hb
        have k1 : v3.cell? ⟨g7, 0, none⟩ = some (.int .i64 n) := X.cell 0
        have k2 : v3.cell? ⟨g7, 1, none⟩ = some (.int .i64 d) := X.cell 1
        go_wp2_with fail
        refine (rround_none _ _ _ hq).mono ?_
        rintro e w' ⟨rfl, rfl⟩
        go_wp2_with fail
        refine (rdown_none _ _ _ hq).mono ?_
        rintro e w' ⟨rfl, rfl⟩
        go_wp2_with fail
        refine (rup_none _ _ _ hq).mono ?_
        rintro e w' ⟨rfl, rfl⟩
        have HR := Lib.hid R
        have HH := Lib.hid HB
        clear R HB X
        go_wp2
        go_roundw
        case rel => exact ⟨1, by simp, rfl, HR, HH⟩
        case measure => simp [intOf]
      · have hq' : 1 ≤ d := by omega
        have c1 : wr.cell? ⟨g, 0, none⟩ = some (.int .i64 n) := R.cell 0
        have c2 : wr.cell? ⟨g, 1, none⟩ = some (.int .i64 d) := R.cell 1
        go_wp2_with fail
        clear c1 c2
        have X : Blk (wr.alloc (.cells #[.int .i64 n, .int .i64 d] 23)) wr.heap.size #[.int .i64 n, .int .i64 d] 23 := Blk.new wr _ _ rfl
        replace HB := balloc HB (.cells #[.int .i64 n, .int .i64 d] 23)
        replace R := R.alloc (.cells #[.int .i64 n, .int .i64 d] 23)
        generalize wr.heap.size = g7 at *
        generalize wr.alloc _ = v0 at *
        refine (round_any _ _ _ (by omega) (by omega) (by omega) (by omega)).mono ?_
        rintro e v1 ⟨rfl, hb⟩
        replace HB := bthen' HB hb
        replace R := R.below hb
        replace X := X.below hb
        clear hb
        have k1 : v1.cell? ⟨g7, 0, none⟩ = some (.int .i64 n) := X.cell 0
        have k2 : v1.cell? ⟨g7, 1, none⟩ = some (.int .i64 d) := X.cell 1
        go_wp2_with fail
        clear k1 k2
        refine (down_any _ _ _ (by omega) (by omega) (by omega) (by omega)).mono ?_
        rintro e v2 ⟨rfl, hb⟩
        replace HB := bthen' HB hb
        replace R := R.below hb
        replace X := X.below hb
        clear hb
        have k1 : v2.cell? ⟨g7, 0, none⟩ = some (.int .i64 n) := X.cell 0
        have k2 : v2.cell? ⟨g7, 1, none⟩ = some (.int .i64 d) := X.cell 1
        go_wp2_with fail
        clear k1 k2
        refine (up_any _ _ _ (by omega) (by omega) (by omega) (by omega)).mono ?_
        rintro e v3 ⟨rfl, hb⟩
        replace HB := bthen' HB hb
        replace R := R.below hb
        replace X := X.below hb
        clear hb
        have k1 : v3.cell? ⟨g7, 0, none⟩ = some (.int .i64 n) := X.cell 0
        have k2 : v3.cell? ⟨g7, 1, none⟩ = some (.int .i64 d) := X.cell 1
        go_wp2_with fail
        refine (rround_any _ _ _ (by omega) (by omega) (by omega) (by omega)).mono ?_
        rintro e w' ⟨rfl, rfl⟩
        go_wp2_with fail
        refine (rdown_any _ _ _ (by omega) (by omega) (by omega) (by omega)).mono ?_
        rintro e w' ⟨rfl, rfl⟩
        go_wp2_with fail
        refine (rup_any _ _ _ (by omega) (by omega) (by omega) (by omega)).mono ?_
        rintro e w' ⟨rfl, rfl⟩
        have HR := Lib.hid R
        have HH := Lib.hid HB
        clear R HB X
        go_wp2
        go_roundw
        case rel => exact ⟨1, by simp, rfl, HR, HH⟩
        case measure => simp [intOf]
    · by_cases hq : (d % 200 - 3) < 1
      · skip
        have c1 : wr.cell? ⟨g, 2, none⟩ = some (.int .i64 n) := R.cell 2
        have c2 : wr.cell? ⟨g, 3, none⟩ = some (.int .i64 (d % 200 - 3)) := R.cell 3
        go_wp2_with fail
        clear c1 c2
        have X : Blk (wr.alloc (.cells #[.int .i64 n, .int .i64 (d % 200 - 3)] 23)) wr.heap.size #[.int .i64 n, .int .i64 (d % 200 - 3)] 23 := Blk.new wr _ _ rfl
        replace HB := balloc HB (.cells #[.int .i64 n, .int .i64 (d % 200 - 3)] 23)
        replace R := R.alloc (.cells #[.int .i64 n, .int .i64 (d % 200 - 3)] 23)
        generalize wr.heap.size = g7 at *
        generalize wr.alloc _ = v0 at *
        refine (round_none _ _ _ hq).mono ?_
        rintro e v1 ⟨rfl, hb⟩
        replace HB := bthen' HB hb
        replace R := R.below hb
        replace X := X.below hb
        clear hb
        have k1 : v1.cell? ⟨g7, 0, none⟩ = some (.int .i64 n) := X.cell 0
        have k2 : v1.cell? ⟨g7, 1, none⟩ = some (.int .i64 (d % 200 - 3)) := X.cell 1
        go_wp2_with fail
        clear k1 k2
        refine (down_none _ _ _ hq).mono ?_
        rintro e v2 ⟨rfl, hb⟩
        replace HB := bthen' HB hb
        replace R := R.below hb
        replace X := X.below hb
        clear hb
        have k1 : v2.cell? ⟨g7, 0, none⟩ = some (.int .i64 n) := X.cell 0
        have k2 : v2.cell? ⟨g7, 1, none⟩ = some (.int .i64 (d % 200 - 3)) := X.cell 1
        go_wp2_with fail
        clear k1 k2
        refine (up_none _ _ _ hq).mono ?_
        rintro e v3 ⟨rfl, hb⟩
        replace HB := bthen' HB hb
        replace R := R.below hb
        replace X := X.below hb
        clear hb
        have k1 : v3.cell? ⟨g7, 0, none⟩ = some (.int .i64 n) := X.cell 0
        have k2 : v3.cell? ⟨g7, 1, none⟩ = some (.int .i64 (d % 200 - 3)) := X.cell 1
        go_wp2_with fail
        refine (rround_none _ _ _ hq).mono ?_
        rintro e w' ⟨rfl, rfl⟩
        go_wp2_with fail
        refine (rdown_none _ _ _ hq).mono ?_
        rintro e w' ⟨rfl, rfl⟩
        go_wp2_with fail
        refine (rup_none _ _ _ hq).mono ?_
        rintro e w' ⟨rfl, rfl⟩
        have HR := Lib.hid R
        have HH := Lib.hid HB
        clear R HB X
        go_wp2
        go_roundw
        case rel => exact ⟨2, by simp, rfl, HR, HH⟩
        case measure => simp [intOf]
      · have hq' : 1 ≤ (d % 200 - 3) := by omega
        have c1 : wr.cell? ⟨g, 2, none⟩ = some (.int .i64 n) := R.cell 2
        have c2 : wr.cell? ⟨g, 3, none⟩ = some (.int .i64 (d % 200 - 3)) := R.cell 3
        go_wp2_with fail
        clear c1 c2
        have X : Blk (wr.alloc (.cells #[.int .i64 n, .int .i64 (d % 200 - 3)] 23)) wr.heap.size #[.int .i64 n, .int .i64 (d % 200 - 3)] 23 := Blk.new wr _ _ rfl
        replace HB := balloc HB (.cells #[.int .i64 n, .int .i64 (d % 200 - 3)] 23)
        replace R := R.alloc (.cells #[.int .i64 n, .int .i64 (d % 200 - 3)] 23)
        generalize wr.heap.size = g7 at *
        generalize wr.alloc _ = v0 at *
        refine (round_any _ _ _ (by omega) (by omega) (by omega) (by omega)).mono ?_
        rintro e v1 ⟨rfl, hb⟩
        replace HB := bthen' HB hb
        replace R := R.below hb
        replace X := X.below hb
        clear hb
        have k1 : v1.cell? ⟨g7, 0, none⟩ = some (.int .i64 n) := X.cell 0
        have k2 : v1.cell? ⟨g7, 1, none⟩ = some (.int .i64 (d % 200 - 3)) := X.cell 1
        go_wp2_with fail
        clear k1 k2
        refine (down_any _ _ _ (by omega) (by omega) (by omega) (by omega)).mono ?_
        rintro e v2 ⟨rfl, hb⟩
        replace HB := bthen' HB hb
        replace R := R.below hb
        replace X := X.below hb
        clear hb
        have k1 : v2.cell? ⟨g7, 0, none⟩ = some (.int .i64 n) := X.cell 0
        have k2 : v2.cell? ⟨g7, 1, none⟩ = some (.int .i64 (d % 200 - 3)) := X.cell 1
        go_wp2_with fail
        clear k1 k2
        refine (up_any _ _ _ (by omega) (by omega) (by omega) (by omega)).mono ?_
        rintro e v3 ⟨rfl, hb⟩
        replace HB := bthen' HB hb
        replace R := R.below hb
        replace X := X.below hb
        clear hb
        have k1 : v3.cell? ⟨g7, 0, none⟩ = some (.int .i64 n) := X.cell 0
        have k2 : v3.cell? ⟨g7, 1, none⟩ = some (.int .i64 (d % 200 - 3)) := X.cell 1
        go_wp2_with fail
        refine (rround_any _ _ _ (by omega) (by omega) (by omega) (by omega)).mono ?_
        rintro e w' ⟨rfl, rfl⟩
        go_wp2_with fail
        refine (rdown_any _ _ _ (by omega) (by omega) (by omega) (by omega)).mono ?_
        rintro e w' ⟨rfl, rfl⟩
        go_wp2_with fail
        refine (rup_any _ _ _ (by omega) (by omega) (by omega) (by omega)).mono ?_
        rintro e w' ⟨rfl, rfl⟩
        have HR := Lib.hid R
        have HH := Lib.hid HB
        clear R HB X
        go_wp2
        go_roundw
        case rel => exact ⟨2, by simp, rfl, HR, HH⟩
        case measure => simp [intOf]
    · by_cases hq : (d % 130 - 1) < 1
      · skip
        have c1 : wr.cell? ⟨g, 4, none⟩ = some (.int .i64 (n % 4000 - 2000)) := R.cell 4
        have c2 : wr.cell? ⟨g, 5, none⟩ = some (.int .i64 (d % 130 - 1)) := R.cell 5
        go_wp2_with fail
        clear c1 c2
        have X : Blk (wr.alloc (.cells #[.int .i64 (n % 4000 - 2000), .int .i64 (d % 130 - 1)] 23)) wr.heap.size #[.int .i64 (n % 4000 - 2000), .int .i64 (d % 130 - 1)] 23 := Blk.new wr _ _ rfl
        replace HB := balloc HB (.cells #[.int .i64 (n % 4000 - 2000), .int .i64 (d % 130 - 1)] 23)
        replace R := R.alloc (.cells #[.int .i64 (n % 4000 - 2000), .int .i64 (d % 130 - 1)] 23)
        generalize wr.heap.size = g7 at *
        generalize wr.alloc _ = v0 at *
        refine (round_none _ _ _ hq).mono ?_
        rintro e v1 ⟨rfl, hb⟩
        replace HB := bthen' HB hb
        replace R := R.below hb
        replace X := X.below hb
        clear hb
        have k1 : v1.cell? ⟨g7, 0, none⟩ = some (.int .i64 (n % 4000 - 2000)) := X.cell 0
        have k2 : v1.cell? ⟨g7, 1, none⟩ = some (.int .i64 (d % 130 - 1)) := X.cell 1
        go_wp2_with fail
        clear k1 k2
        refine (down_none _ _ _ hq).mono ?_
        rintro e v2 ⟨rfl, hb⟩
        replace HB := bthen' HB hb
        replace R := R.below hb
        replace X := X.below hb
        clear hb
        have k1 : v2.cell? ⟨g7, 0, none⟩ = some (.int .i64 (n % 4000 - 2000)) := X.cell 0
        have k2 : v2.cell? ⟨g7, 1, none⟩ = some (.int .i64 (d % 130 - 1)) := X.cell 1
        go_wp2_with fail
        clear k1 k2
        refine (up_none _ _ _ hq).mono ?_
        rintro e v3 ⟨rfl, hb⟩
        replace HB := bthen' HB hb
        replace R := R.below hb
        replace X := X.below hb
        clear hb
        have k1 : v3.cell? ⟨g7, 0, none⟩ = some (.int .i64 (n % 4000 - 2000)) := X.cell 0
        have k2 : v3.cell? ⟨g7, 1, none⟩ = some (.int .i64 (d % 130 - 1)) := X.cell 1
        go_wp2_with fail
        refine (rround_none _ _ _ hq).mono ?_
        rintro e w' ⟨rfl, rfl⟩
        go_wp2_with fail
        refine (rdown_none _ _ _ hq).mono ?_
        rintro e w' ⟨rfl, rfl⟩
        go_wp2_with fail
        refine (rup_none _ _ _ hq).mono ?_
        rintro e w' ⟨rfl, rfl⟩
        have HR := Lib.hid R
        have HH := Lib.hid HB
        clear R HB X
        go_wp2
        go_roundw
        case rel => exact ⟨3, by simp, rfl, HR, HH⟩
        case measure => simp [intOf]
      · have hq' : 1 ≤ (d % 130 - 1) := by omega
        have c1 : wr.cell? ⟨g, 4, none⟩ = some (.int .i64 (n % 4000 - 2000)) := R.cell 4
        have c2 : wr.cell? ⟨g, 5, none⟩ = some (.int .i64 (d % 130 - 1)) := R.cell 5
        go_wp2_with fail
        clear c1 c2
        have X : Blk (wr.alloc (.cells #[.int .i64 (n % 4000 - 2000), .int .i64 (d % 130 - 1)] 23)) wr.heap.size #[.int .i64 (n % 4000 - 2000), .int .i64 (d % 130 - 1)] 23 := Blk.new wr _ _ rfl
        replace HB := balloc HB (.cells #[.int .i64 (n % 4000 - 2000), .int .i64 (d % 130 - 1)] 23)
        replace R := R.alloc (.cells #[.int .i64 (n % 4000 - 2000), .int .i64 (d % 130 - 1)] 23)
        generalize wr.heap.size = g7 at *
        generalize wr.alloc _ = v0 at *
        refine (round_any _ _ _ (by omega) (by omega) (by omega) (by omega)).mono ?_
        rintro e v1 ⟨rfl, hb⟩
        replace HB := bthen' HB hb
        replace R := R.below hb
        replace X := X.below hb
        clear hb
        have k1 : v1.cell? ⟨g7, 0, none⟩ = some (.int .i64 (n % 4000 - 2000)) := X.cell 0
        have k2 : v1.cell? ⟨g7, 1, none⟩ = some (.int .i64 (d % 130 - 1)) := X.cell 1
        go_wp2_with fail
        clear k1 k2
        refine (down_any _ _ _ (by omega) (by omega) (by omega) (by omega)).mono ?_
        rintro e v2 ⟨rfl, hb⟩
        replace HB := bthen' HB hb
        replace R := R.below hb
        replace X := X.below hb
        clear hb
        have k1 : v2.cell? ⟨g7, 0, none⟩ = some (.int .i64 (n % 4000 - 2000)) := X.cell 0
        have k2 : v2.cell? ⟨g7, 1, none⟩ = some (.int .i64 (d % 130 - 1)) := X.cell 1
        go_wp2_with fail
        clear k1 k2
        refine (up_any _ _ _ (by omega) (by omega) (by omega) (by omega)).mono ?_
        rintro e v3 ⟨rfl, hb⟩
        replace HB := bthen' HB hb
        replace R := R.below hb
        replace X := X.below hb
        clear hb
        have k1 : v3.cell? ⟨g7, 0, none⟩ = some (.int .i64 (n % 4000 - 2000)) := X.cell 0
        have k2 : v3.cell? ⟨g7, 1, none⟩ = some (.int .i64 (d % 130 - 1)) := X.cell 1
        go_wp2_with fail
        refine (rround_any _ _ _ (by omega) (by omega) (by omega) (by omega)).mono ?_
        rintro e w' ⟨rfl, rfl⟩
        go_wp2_with fail
        refine (rdown_any _ _ _ (by omega) (by omega) (by omega) (by omega)).mono ?_
        rintro e w' ⟨rfl, rfl⟩
        go_wp2_with fail
        refine (rup_any _ _ _ (by omega) (by omega) (by omega) (by omega)).mono ?_
        rintro e w' ⟨rfl, rfl⟩
        have HR := Lib.hid R
        have HH := Lib.hid HB
        clear R HB X
        go_wp2
        go_roundw
        case rel => exact ⟨3, by simp, rfl, HR, HH⟩
        case measure => simp [intOf]
    · go_wp2
      go_ret
      exact ⟨rfl, HB⟩

end Go.Proofs.Ytkdcbinaglidoaa
