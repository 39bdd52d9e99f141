/- The walk of FixLines. -/
import Derived.Test.YtkdcbinaglidoaaFixRounds
import Derived.Deep.RegionHeld3
import Derived.Deep.DeepCutAuto
import Derived.IntWalk
set_option linter.unusedVariables false
set_option linter.unusedSimpArgs false
namespace Go.Proofs.Ytkdcbinaglidoaa
open Go.RowKit

theorem Blk.at {w : World} {g i : Nat} {cs : Array Value} {t : TypeId} {v : Value} (h : Blk w g cs t) (e : cs[i]? = some v) : w.cell? ⟨g, i, none⟩ = some v := (h.cell i).trans e

set_option maxRecDepth 100000 in
set_option maxHeartbeats 4000000 in
theorem fixLines_walk (x fx fy tx ty : Int) (w : World) (wx : (Lit.int .i64 x).wf = true) (wfx : (Lit.int .i64 fx).wf = true) (wfy : (Lit.int .i64 fy).wf = true) (wtx : (Lit.int .i64 tx).wf = true) (wty : (Lit.int .i64 ty).wf = true) :
    Calls Try.prog 9 #[.int .i64 x, .agg #[.int .i64 fx, .int .i64 fy], .agg #[.int .i64 tx, .int .i64 ty]] w fun e w' => e = .returned (.bool true) ∧ Below w.heap.size w w' := by
  clear wx wfx wfy wtx wty
  have A1 : Blk ((w.alloc (.cells #[.int .i64 fx, .int .i64 fy] 23)).alloc (.cells #[.int .i64 tx, .int .i64 ty] 23)) w.heap.size #[.int .i64 fx, .int .i64 fy] 23 := (Blk.new w _ _ rfl).alloc _
  have A2 : Blk ((w.alloc (.cells #[.int .i64 fx, .int .i64 fy] 23)).alloc (.cells #[.int .i64 tx, .int .i64 ty] 23)) (w.heap.size + 1) #[.int .i64 tx, .int .i64 ty] 23 := Blk.new _ _ _ (by simp)
  have HB := balloc (balloc (Below.refl w.heap.size w) (.cells #[.int .i64 fx, .int .i64 fy] 23)) (.cells #[.int .i64 tx, .int .i64 ty] 23)
  go_enter Try.func9, Try.ntmps9
  go_wp2_with fail
  refine (sanity_any _).mono ?_
  rintro e w1 ⟨rfl, hb⟩
  replace HB := bthen' HB hb
  replace A1 := A1.below hb
  replace A2 := A2.below hb
  clear hb
  obtain ⟨m1, m2⟩ := emod_bounds fx (m := 130) (by omega)
  obtain ⟨m3, m4⟩ := emod_bounds fy (m := 130) (by omega)
  obtain ⟨m5, m6⟩ := emod_bounds tx (m := 70) (by omega)
  obtain ⟨m7, m8⟩ := emod_bounds ty (m := 130) (by omega)
  obtain ⟨m9, m10⟩ := emod_bounds x (m := 72) (by omega)
  go_upto_region 2 with fail
  go_cut [8] (fun s8 wx => ∃ g : Nat, s8 = .pointer (some ⟨g, 0, none⟩) ∧ Hid (Below w.heap.size w wx) ∧ Hid (Blk wx w.heap.size #[.int .i64 fx, .int .i64 fy] 23) ∧ Hid (Blk wx (w.heap.size + 1) #[.int .i64 tx, .int .i64 ty] 23) ∧ Hid (Blk wx g #[.int .i64 (fx % 130 - 65), .int .i64 (fy % 130 - 65)] 23))
  case first =>
    have k1 : w1.cell? ⟨w.heap.size, 0, none⟩ = some (.int .i64 fx) := A1.cell 0
    have k2 : w1.cell? ⟨w.heap.size, 1, none⟩ = some (.int .i64 fy) := A1.cell 1
    have u1 : IntKind.i64.wrap (fx % 130 - 65) = fx % 130 - 65 := IntWalk.i64_in _ (by omega)
    have u2 : IntKind.i64.wrap (fy % 130 - 65) = fy % 130 - 65 := IntWalk.i64_in _ (by omega)
    clear m1 m2 m3 m4 m5 m6 m7 m8 m9 m10
    go_region_held3 (fun w' => w'.cell? ⟨w.heap.size, 0, none⟩ = some (.int .i64 fx) ∧ w'.cell? ⟨w.heap.size, 1, none⟩ = some (.int .i64 fy)) (first | (with_reducible exact ⟨k1, k2⟩) | go_keep) (first | (go_at_call 12; refine (rmod_any _ _ _ (by decide) (by decide)).mono ?_; rintro e w' ⟨rfl, rfl⟩))
    all_goals
      go_wp2_with fail
      go_meet
      exact ⟨w1.heap.size, rfl, bdrew (balloc HB _), (A1.alloc _).drew, (A2.alloc _).drew, (Blk.new _ _ _ rfl).drew⟩
  case rest =>
    obtain ⟨g8, rfl, HB0, A10, A20, G80⟩ := hcut
    replace HB := HB0.out
    replace A1 := A10.out
    replace A2 := A20.out
    have G8 := G80.out
    clear HB0 A10 A20 G80
    generalize fx % 130 = p at *
    generalize fy % 130 = q at *
    go_upto_region 3 with fail
    go_cut [9] (fun s9 wx => ∃ g : Nat, s9 = .pointer (some ⟨g, 0, none⟩) ∧ Hid (Below w.heap.size w wx) ∧ Hid (Blk wx w.heap.size #[.int .i64 fx, .int .i64 fy] 23) ∧ Hid (Blk wx (w.heap.size + 1) #[.int .i64 tx, .int .i64 ty] 23) ∧ Hid (Blk wx g8 #[.int .i64 (p - 65), .int .i64 (q - 65)] 23) ∧ Hid (Blk wx g #[.int .i64 (p - 65 + tx % 70 - 2), .int .i64 (ty % 130 - 65)] 23))
    case first =>
      have k1 : wc.cell? ⟨g8, 0, none⟩ = some (.int .i64 (p - 65)) := G8.cell 0
      have k3 : wc.cell? ⟨w.heap.size + 1, 0, none⟩ = some (.int .i64 tx) := A2.cell 0
      have k4 : wc.cell? ⟨w.heap.size + 1, 1, none⟩ = some (.int .i64 ty) := A2.cell 1
      have u1 : IntKind.i64.wrap (p - 65 + tx % 70) = p - 65 + tx % 70 := IntWalk.i64_in _ (by omega)
      have u2 : IntKind.i64.wrap (p - 65 + tx % 70 - 2) = p - 65 + tx % 70 - 2 := IntWalk.i64_in _ (by omega)
      have u3 : IntKind.i64.wrap (ty % 130 - 65) = ty % 130 - 65 := IntWalk.i64_in _ (by omega)
      clear m1 m2 m3 m4 m5 m6 m7 m8 m9 m10
      go_region_held3 (fun w' => w'.cell? ⟨g8, 0, none⟩ = some (.int .i64 (p - 65)) ∧ w'.cell? ⟨w.heap.size + 1, 0, none⟩ = some (.int .i64 tx) ∧ w'.cell? ⟨w.heap.size + 1, 1, none⟩ = some (.int .i64 ty)) (first | (with_reducible exact ⟨k1, k3, k4⟩) | go_keep) (first | (go_at_call 12; refine (rmod_any _ _ _ (by decide) (by decide)).mono ?_; rintro e w' ⟨rfl, rfl⟩))
      all_goals
        go_wp2_with fail
        go_meet
        exact ⟨wc.heap.size, rfl, bdrew (balloc HB _), (A1.alloc _).drew, (A2.alloc _).drew, (G8.alloc _).drew, (Blk.new _ _ _ rfl).drew⟩
    case rest =>
      obtain ⟨g9, rfl, HB0, A10, A20, G80, G90⟩ := hcut
      replace HB := HB0.out
      replace A1 := A10.out
      replace A2 := A20.out
      replace G8 := G80.out
      have G9 := G90.out
      clear HB0 A10 A20 G80 G90
      generalize tx % 70 = r at *
      generalize ty % 130 = s at *
      go_upto_region 4 with fail
      go_cut [59, 60, 61] (fun s59 s60 s61 wx => ∃ g : Nat, s59 = .slice (some ⟨g, 0, none⟩) 3 3 ∧ s60 = .int .i64 3 ∧ s61 = .int .i64 0 ∧ Hid (Below w.heap.size w wx) ∧ Hid (Blk wx g #[.int .i64 x, .int .i64 0, .int .i64 fx, .int .i64 fy, .int .i64 tx, .int .i64 ty, .int .i64 (p - 65 + x % 72 - 1), .int .i64 0, .int .i64 (p - 65), .int .i64 (q - 65), .int .i64 (p - 65 + r - 2), .int .i64 (s - 65), .int .i64 fx, .int .i64 0, .int .i64 fx, .int .i64 fy, .int .i64 tx, .int .i64 ty] 45))
      case first =>
        have k1 : wc.cell? ⟨w.heap.size, 0, none⟩ = some (.int .i64 fx) := A1.cell 0
        have k2 : wc.cell? ⟨w.heap.size, 1, none⟩ = some (.int .i64 fy) := A1.cell 1
        have k3 : wc.cell? ⟨w.heap.size + 1, 0, none⟩ = some (.int .i64 tx) := A2.cell 0
        have k4 : wc.cell? ⟨w.heap.size + 1, 1, none⟩ = some (.int .i64 ty) := A2.cell 1
        have k5 : wc.cell? ⟨g8, 0, none⟩ = some (.int .i64 (p - 65)) := G8.cell 0
        have k6 : wc.cell? ⟨g8, 1, none⟩ = some (.int .i64 (q - 65)) := G8.cell 1
        have k7 : wc.cell? ⟨g9, 0, none⟩ = some (.int .i64 (p - 65 + r - 2)) := G9.cell 0
        have k8 : wc.cell? ⟨g9, 1, none⟩ = some (.int .i64 (s - 65)) := G9.cell 1
        have u1 : IntKind.i64.wrap (p - 65 + x % 72) = p - 65 + x % 72 := IntWalk.i64_in _ (by omega)
        have u2 : IntKind.i64.wrap (p - 65 + x % 72 - 1) = p - 65 + x % 72 - 1 := IntWalk.i64_in _ (by omega)
        clear m1 m2 m3 m4 m5 m6 m7 m8 m9 m10
        go_region_held3 (fun w' => w'.cell? ⟨w.heap.size, 0, none⟩ = some (.int .i64 fx) ∧ w'.cell? ⟨w.heap.size, 1, none⟩ = some (.int .i64 fy) ∧ w'.cell? ⟨w.heap.size + 1, 0, none⟩ = some (.int .i64 tx) ∧ w'.cell? ⟨w.heap.size + 1, 1, none⟩ = some (.int .i64 ty) ∧ w'.cell? ⟨g8, 0, none⟩ = some (.int .i64 (p - 65)) ∧ w'.cell? ⟨g8, 1, none⟩ = some (.int .i64 (q - 65)) ∧ w'.cell? ⟨g9, 0, none⟩ = some (.int .i64 (p - 65 + r - 2)) ∧ w'.cell? ⟨g9, 1, none⟩ = some (.int .i64 (s - 65))) (first | (with_reducible exact ⟨k1, k2, k3, k4, k5, k6, k7, k8⟩) | go_keep) (first | (go_at_call 12; refine (rmod_any _ _ _ (by decide) (by decide)).mono ?_; rintro e w' ⟨rfl, rfl⟩))
        all_goals
          go_wp2_with fail
          go_meet
          exact ⟨wc.heap.size, rfl, rfl, rfl, bdrew (balloc HB _), (Blk.new _ _ _ rfl).drew⟩
      case rest =>
        obtain ⟨g, rfl, rfl, rfl, HB0, R0⟩ := hcut
        have HH := HB0
        have HR := R0
        clear HB0 R0 HB A1 A2 G8 G9
        go_wp2_with fail
        go_loopw [61] (fun i wr => ∃ k : Int, (k = 0 ∨ k = 1 ∨ k = 2 ∨ k = 3) ∧ i = .int .i64 k ∧ Hid (Blk wr g #[.int .i64 x, .int .i64 0, .int .i64 fx, .int .i64 fy, .int .i64 tx, .int .i64 ty, .int .i64 (p - 65 + x % 72 - 1), .int .i64 0, .int .i64 (p - 65), .int .i64 (q - 65), .int .i64 (p - 65 + r - 2), .int .i64 (s - 65), .int .i64 fx, .int .i64 0, .int .i64 fx, .int .i64 fy, .int .i64 tx, .int .i64 ty] 45) ∧ Hid (Below w.heap.size w wr)) (fun i _ => (3 - intOf i).toNat)
        case atStart => exact ⟨0, .inl rfl, rfl, HR, HH⟩
        case round =>
          clear HR HH
          obtain ⟨k, hk, rfl, R0, B0⟩ := hrel
          have R := R0.out
          have HB := B0.out
          clear R0 B0
          rcases hk with rfl | rfl | rfl | rfl
          · skip
            have c0 : wr.cell? ⟨g, 0, none⟩ = some (.int .i64 x) := R.cell 0
            have c1 : wr.cell? ⟨g, 1, none⟩ = some (.int .i64 0) := R.cell 1
            have c2 : wr.cell? ⟨g, 2, none⟩ = some (.int .i64 fx) := R.cell 2
            have c3 : wr.cell? ⟨g, 3, none⟩ = some (.int .i64 fy) := R.cell 3
            have c4 : wr.cell? ⟨g, 4, none⟩ = some (.int .i64 tx) := R.cell 4
            have c5 : wr.cell? ⟨g, 5, none⟩ = some (.int .i64 ty) := R.cell 5
            go_wp2_with fail
            clear c0 c1 c2 c3 c4 c5
            have X : Blk (wr.alloc (.cells #[.int .i64 x, .int .i64 0, .int .i64 fx, .int .i64 fy, .int .i64 tx, .int .i64 ty] 45)) wr.heap.size #[.int .i64 x, .int .i64 0, .int .i64 fx, .int .i64 fy, .int .i64 tx, .int .i64 ty] 45 := Blk.new wr _ _ rfl
            replace HB := balloc HB (.cells #[.int .i64 x, .int .i64 0, .int .i64 fx, .int .i64 fy, .int .i64 tx, .int .i64 ty] 45)
            replace R := R.alloc (.cells #[.int .i64 x, .int .i64 0, .int .i64 fx, .int .i64 fy, .int .i64 tx, .int .i64 ty] 45)
            generalize wr.heap.size = g9 at *
            generalize wr.alloc _ = v0 at *
            refine (line_any _ _ _ _ _ _).mono ?_
            rintro e v1 ⟨rfl, hb⟩
            replace HB := bthen' HB hb
            replace R := R.below hb
            replace X := X.below hb
            clear hb
            have c0 : v1.cell? ⟨g9, 0, none⟩ = some (.int .i64 x) := X.cell 0
            have c1 : v1.cell? ⟨g9, 1, none⟩ = some (.int .i64 0) := X.cell 1
            have c2 : v1.cell? ⟨g9, 2, none⟩ = some (.int .i64 fx) := X.cell 2
            have c3 : v1.cell? ⟨g9, 3, none⟩ = some (.int .i64 fy) := X.cell 3
            have c4 : v1.cell? ⟨g9, 4, none⟩ = some (.int .i64 tx) := X.cell 4
            have c5 : v1.cell? ⟨g9, 5, none⟩ = some (.int .i64 ty) := X.cell 5
            go_wp2_with fail
            clear c0 c1 c2 c3 c4 c5 X
            refine (rline_any _ _ _ _ _ _).mono ?_
            rintro e v2 ⟨rfl, hb⟩
            replace HB := bthen' HB hb
            replace R := R.below hb
            clear hb
            generalize lineQ x fx fy tx ty = lq at *
            generalize lineOk x fx fy tx ty = lo at *
            have e1 : (lq != lq) = false := by simp
            have e2 : (lo != lo) = false := by simp
            have HR := Lib.hid R
            have HH := Lib.hid HB
            clear R HB
            go_wp2
            go_roundw
            case rel => exact ⟨1, by simp, rfl, HR, HH⟩
            case measure => simp [intOf]
          · skip
            have c0 : wr.cell? ⟨g, 6, none⟩ = some (.int .i64 (p - 65 + x % 72 - 1)) := R.cell 6
            have c1 : wr.cell? ⟨g, 7, none⟩ = some (.int .i64 0) := R.cell 7
            have c2 : wr.cell? ⟨g, 8, none⟩ = some (.int .i64 (p - 65)) := R.cell 8
            have c3 : wr.cell? ⟨g, 9, none⟩ = some (.int .i64 (q - 65)) := R.cell 9
            have c4 : wr.cell? ⟨g, 10, none⟩ = some (.int .i64 (p - 65 + r - 2)) := R.cell 10
            have c5 : wr.cell? ⟨g, 11, none⟩ = some (.int .i64 (s - 65)) := R.cell 11
            go_wp2_with fail
            clear c0 c1 c2 c3 c4 c5
            have X : Blk (wr.alloc (.cells #[.int .i64 (p - 65 + x % 72 - 1), .int .i64 0, .int .i64 (p - 65), .int .i64 (q - 65), .int .i64 (p - 65 + r - 2), .int .i64 (s - 65)] 45)) wr.heap.size #[.int .i64 (p - 65 + x % 72 - 1), .int .i64 0, .int .i64 (p - 65), .int .i64 (q - 65), .int .i64 (p - 65 + r - 2), .int .i64 (s - 65)] 45 := Blk.new wr _ _ rfl
            replace HB := balloc HB (.cells #[.int .i64 (p - 65 + x % 72 - 1), .int .i64 0, .int .i64 (p - 65), .int .i64 (q - 65), .int .i64 (p - 65 + r - 2), .int .i64 (s - 65)] 45)
            replace R := R.alloc (.cells #[.int .i64 (p - 65 + x % 72 - 1), .int .i64 0, .int .i64 (p - 65), .int .i64 (q - 65), .int .i64 (p - 65 + r - 2), .int .i64 (s - 65)] 45)
            generalize wr.heap.size = g9 at *
            generalize wr.alloc _ = v0 at *
            refine (line_any _ _ _ _ _ _).mono ?_
            rintro e v1 ⟨rfl, hb⟩
            replace HB := bthen' HB hb
            replace R := R.below hb
            replace X := X.below hb
            clear hb
            have c0 : v1.cell? ⟨g9, 0, none⟩ = some (.int .i64 (p - 65 + x % 72 - 1)) := X.cell 0
            have c1 : v1.cell? ⟨g9, 1, none⟩ = some (.int .i64 0) := X.cell 1
            have c2 : v1.cell? ⟨g9, 2, none⟩ = some (.int .i64 (p - 65)) := X.cell 2
            have c3 : v1.cell? ⟨g9, 3, none⟩ = some (.int .i64 (q - 65)) := X.cell 3
            have c4 : v1.cell? ⟨g9, 4, none⟩ = some (.int .i64 (p - 65 + r - 2)) := X.cell 4
            have c5 : v1.cell? ⟨g9, 5, none⟩ = some (.int .i64 (s - 65)) := X.cell 5
            go_wp2_with fail
            clear c0 c1 c2 c3 c4 c5 X
            refine (rline_any _ _ _ _ _ _).mono ?_
            rintro e v2 ⟨rfl, hb⟩
            replace HB := bthen' HB hb
            replace R := R.below hb
            clear hb
            generalize lineQ (p - 65 + x % 72 - 1) (p - 65) (q - 65) (p - 65 + r - 2) (s - 65) = lq at *
            generalize lineOk (p - 65 + x % 72 - 1) (p - 65) (q - 65) (p - 65 + r - 2) (s - 65) = lo at *
            have e1 : (lq != lq) = false := by simp
            have e2 : (lo != lo) = false := by simp
            have HR := Lib.hid R
            have HH := Lib.hid HB
            clear R HB
            go_wp2
            go_roundw
            case rel => exact ⟨2, by simp, rfl, HR, HH⟩
            case measure => simp [intOf]
          · skip
            have c0 : wr.cell? ⟨g, 12, none⟩ = some (.int .i64 fx) := R.cell 12
            have c1 : wr.cell? ⟨g, 13, none⟩ = some (.int .i64 0) := R.cell 13
            have c2 : wr.cell? ⟨g, 14, none⟩ = some (.int .i64 fx) := R.cell 14
            have c3 : wr.cell? ⟨g, 15, none⟩ = some (.int .i64 fy) := R.cell 15
            have c4 : wr.cell? ⟨g, 16, none⟩ = some (.int .i64 tx) := R.cell 16
            have c5 : wr.cell? ⟨g, 17, none⟩ = some (.int .i64 ty) := R.cell 17
            go_wp2_with fail
            clear c0 c1 c2 c3 c4 c5
            have X : Blk (wr.alloc (.cells #[.int .i64 fx, .int .i64 0, .int .i64 fx, .int .i64 fy, .int .i64 tx, .int .i64 ty] 45)) wr.heap.size #[.int .i64 fx, .int .i64 0, .int .i64 fx, .int .i64 fy, .int .i64 tx, .int .i64 ty] 45 := Blk.new wr _ _ rfl
            replace HB := balloc HB (.cells #[.int .i64 fx, .int .i64 0, .int .i64 fx, .int .i64 fy, .int .i64 tx, .int .i64 ty] 45)
            replace R := R.alloc (.cells #[.int .i64 fx, .int .i64 0, .int .i64 fx, .int .i64 fy, .int .i64 tx, .int .i64 ty] 45)
            generalize wr.heap.size = g9 at *
            generalize wr.alloc _ = v0 at *
            refine (line_any _ _ _ _ _ _).mono ?_
            rintro e v1 ⟨rfl, hb⟩
            replace HB := bthen' HB hb
            replace R := R.below hb
            replace X := X.below hb
            clear hb
            have c0 : v1.cell? ⟨g9, 0, none⟩ = some (.int .i64 fx) := X.cell 0
            have c1 : v1.cell? ⟨g9, 1, none⟩ = some (.int .i64 0) := X.cell 1
            have c2 : v1.cell? ⟨g9, 2, none⟩ = some (.int .i64 fx) := X.cell 2
            have c3 : v1.cell? ⟨g9, 3, none⟩ = some (.int .i64 fy) := X.cell 3
            have c4 : v1.cell? ⟨g9, 4, none⟩ = some (.int .i64 tx) := X.cell 4
            have c5 : v1.cell? ⟨g9, 5, none⟩ = some (.int .i64 ty) := X.cell 5
            go_wp2_with fail
            clear c0 c1 c2 c3 c4 c5 X
            refine (rline_any _ _ _ _ _ _).mono ?_
            rintro e v2 ⟨rfl, hb⟩
            replace HB := bthen' HB hb
            replace R := R.below hb
            clear hb
            generalize lineQ fx fx fy tx ty = lq at *
            generalize lineOk fx fx fy tx ty = lo at *
            have e1 : (lq != lq) = false := by simp
            have e2 : (lo != lo) = false := by simp
            have HR := Lib.hid R
            have HH := Lib.hid HB
            clear R HB
            go_wp2
            go_roundw
            case rel => exact ⟨3, by simp, rfl, HR, HH⟩
            case measure => simp [intOf]
          · go_wp2
            go_ret
            exact ⟨rfl, HB⟩

end Go.Proofs.Ytkdcbinaglidoaa
