/- The walk of FixMuls. -/
import Derived.Test.YtkdcbinaglidoaaFixRounds
import Derived.Deep.RegionHeld3
set_option linter.unusedVariables false
set_option linter.unusedSimpArgs false
namespace Go.Proofs.Ytkdcbinaglidoaa
open Go.RowKit

theorem quiet_same {P : Program} {f : FuncId} {args : Array Value} {w : World} {n : Nat} {v : Value}
    (h : Calls P f args (w.drewN n) fun e w' => e = .returned v ∧ w.drewN n = w') : Calls P f args (w.drewN n) fun e w'' => e = .returned v ∧ ∃ m, w'' = w.drewN m :=
  h.mono fun _ _ ⟨he, hm⟩ => ⟨he, n, hm.symm⟩

set_option maxRecDepth 100000 in
set_option maxHeartbeats 4000000 in
theorem fixMuls_walk (a b sn sd : Int) (w : World) (wa : (Lit.int .i64 a).wf = true) (wb : (Lit.int .i64 b).wf = true) (wsn : (Lit.int .i64 sn).wf = true) (wsd : (Lit.int .i64 sd).wf = true) :
    Calls Try.prog 5 #[.int .i64 a, .int .i64 b, .agg #[.int .i64 sn, .int .i64 sd]] w fun e w' => e = .returned (.bool true) ∧ Below w.heap.size w w' := by
  obtain ⟨a1, a2⟩ := bounds_i64 wa
  obtain ⟨b1, b2⟩ := bounds_i64 wb
  clear wa wb wsn wsd
  have SB := Blk.new w #[.int .i64 sn, .int .i64 sd] 31 rfl
  have HB := balloc (Below.refl w.heap.size w) (.cells #[.int .i64 sn, .int .i64 sd] 31)
  go_enter Try.func5, Try.ntmps5
  go_wp2_with fail
  refine (sanity_any _).mono ?_
  rintro e w1 ⟨rfl, hb⟩
  replace HB := bthen' HB hb
  replace SB := SB.below hb
  clear hb
  obtain ⟨u1, u2⟩ := emod_bounds a (m := 2097160) (by omega)
  obtain ⟨v1, v2⟩ := emod_bounds b (m := 9000) (by omega)
  go_wp2_with fail
  refine (rmod_any _ _ _ (by omega) (by omega)).mono ?_
  rintro e w' ⟨rfl, rfl⟩
  go_wp2_with fail
  refine (rmod_any _ _ _ (by omega) (by omega)).mono ?_
  rintro e w' ⟨rfl, rfl⟩
  go_wp2_with fail
  have R := Blk.new w1 #[.int .i64 a, .int .i64 b, .int .i64 (a % 2097160 - 1048576 - 4), .int .i64 b, .int .i64 (a % 2097160 - 1048576 - 4), .int .i64 (b % 9000 - 4500)] 23 rfl
  replace HB := balloc HB (.cells #[.int .i64 a, .int .i64 b, .int .i64 (a % 2097160 - 1048576 - 4), .int .i64 b, .int .i64 (a % 2097160 - 1048576 - 4), .int .i64 (b % 9000 - 4500)] 23)
  replace SB := SB.alloc (.cells #[.int .i64 a, .int .i64 b, .int .i64 (a % 2097160 - 1048576 - 4), .int .i64 b, .int .i64 (a % 2097160 - 1048576 - 4), .int .i64 (b % 9000 - 4500)] 23)
  generalize hg : w1.heap.size = g at *
  clear hg
  generalize w1.alloc _ = w2 at *
  have HR := Lib.hid R
  have HH := Lib.hid HB
  have HS := Lib.hid SB
  clear R HB SB
  go_loopw [35] (fun i wr => ∃ k : Int, (k = 0 ∨ k = 1 ∨ k = 2 ∨ k = 3) ∧ i = .int .i64 k ∧ Hid (Blk wr g #[.int .i64 a, .int .i64 b, .int .i64 (a % 2097160 - 1048576 - 4), .int .i64 b, .int .i64 (a % 2097160 - 1048576 - 4), .int .i64 (b % 9000 - 4500)] 23) ∧ Hid (Blk wr w.heap.size #[.int .i64 sn, .int .i64 sd] 31) ∧ Hid (Below w.heap.size w wr)) (fun i _ => (3 - intOf i).toNat)
  case atStart => exact ⟨0, .inl rfl, rfl, HR, HS, HH⟩
  case round =>
    clear HR HH HS
    obtain ⟨k, hk, rfl, R0, S0, B0⟩ := hrel
    have R := R0.out
    have SB := S0.out
    have HB := B0.out
    clear R0 B0 S0
    rcases hk with rfl | rfl | rfl | rfl
    · have c1 : wr.cell? ⟨g, 0, none⟩ = some (.int .i64 a) := R.cell 0
      have c2 : wr.cell? ⟨g, 1, none⟩ = some (.int .i64 b) := R.cell 1
      go_wp2_with fail
      clear c1 c2
      have X : Blk (wr.alloc (.cells #[.int .i64 a, .int .i64 b] 23)) wr.heap.size #[.int .i64 a, .int .i64 b] 23 := Blk.new wr _ _ rfl
      replace HB := balloc HB (.cells #[.int .i64 a, .int .i64 b] 23)
      replace R := R.alloc (.cells #[.int .i64 a, .int .i64 b] 23)
      replace SB := SB.alloc (.cells #[.int .i64 a, .int .i64 b] 23)
      generalize wr.heap.size = g7 at *
      generalize wr.alloc _ = v0 at *
      refine (mul_any _ _ _).mono ?_
      rintro e v1 ⟨rfl, hb⟩
      replace HB := bthen' HB hb
      replace R := R.below hb
      replace SB := SB.below hb
      replace X := X.below hb
      clear hb
      have k1 : v1.cell? ⟨g7, 0, none⟩ = some (.int .i64 a) := X.cell 0
      have k2 : v1.cell? ⟨g7, 1, none⟩ = some (.int .i64 b) := X.cell 1
      go_wp2_with fail
      refine (rmul_any _ _ _).mono ?_
      rintro e w' ⟨rfl, rfl⟩
      generalize mulQ a b = mq
      generalize mulOk a b = mo
      have k3 : v1.cell? ⟨w.heap.size, 0, none⟩ = some (.int .i64 sn) := SB.cell 0
      have k4 : v1.cell? ⟨w.heap.size, 1, none⟩ = some (.int .i64 sd) := SB.cell 1
      have e1 : (mq != mq) = false := by simp
      have e2 : (mo != mo) = false := by simp
      go_wp2_with fail
      go_quiet ((first | (go_at_call 21; exact quiet_same (clamp_any _ _ _ _)) | (go_at_call 22; exact quiet_same (rclamp_any _ _ _ _))))
      have e3 : (clampI a b sn != clampI a b sn) = false := by simp
      clear k1 k2 k3 k4
      have HB : Below w.heap.size w (v1.drewN nq) := bdrewN HB nq
      have R : Blk (v1.drewN nq) g #[.int .i64 a, .int .i64 b, .int .i64 (a % 2097160 - 1048576 - 4), .int .i64 b, .int .i64 (a % 2097160 - 1048576 - 4), .int .i64 (b % 9000 - 4500)] 23 := R.drewN nq
      have X : Blk (v1.drewN nq) g7 #[.int .i64 a, .int .i64 b] 23 := X.drewN nq
      have SB : Blk (v1.drewN nq) w.heap.size #[.int .i64 sn, .int .i64 sd] 31 := SB.drewN nq
      generalize v1.drewN nq = v2 at *
      have k3 : v2.cell? ⟨w.heap.size, 0, none⟩ = some (.int .i64 sn) := SB.cell 0
      have k4 : v2.cell? ⟨w.heap.size, 1, none⟩ = some (.int .i64 sd) := SB.cell 1
      go_wp2_with fail
      go_region_held3 (fun w' => w'.cell? ⟨w.heap.size, 0, none⟩ = some (.int .i64 sn) ∧ w'.cell? ⟨w.heap.size, 1, none⟩ = some (.int .i64 sd)) (first | exact ⟨k3, k4⟩ | go_keep) (first | (go_at_call 23; refine (rmade_any _ _ _).mono ?_; rintro e v3 ⟨rfl, hb⟩; have k5 : v3.cell? ⟨w.heap.size, 0, none⟩ = some (.int .i64 sn) := (SB.drew.below hb).cell 0; have k6 : v3.cell? ⟨w.heap.size, 1, none⟩ = some (.int .i64 sd) := (SB.drew.below hb).cell 1))
      replace HB := bthen' (bdrew HB) hb
      replace R := R.drew.below hb
      replace X := X.drew.below hb
      replace SB := SB.drew.below hb
      clear hb k3 k4 k5 k6
      go_wp2_with fail
      generalize madeN sn sd = yn at *
      generalize madeD sn sd = yd at *
      have Y : Blk (v3.alloc (.cells #[.int .i64 sn, .int .i64 sd, .int .i64 yn, .int .i64 yd] 31)) v3.heap.size #[.int .i64 sn, .int .i64 sd, .int .i64 yn, .int .i64 yd] 31 := Blk.new v3 _ _ rfl
      replace HB := balloc HB (.cells #[.int .i64 sn, .int .i64 sd, .int .i64 yn, .int .i64 yd] 31)
      replace R := R.alloc (.cells #[.int .i64 sn, .int .i64 sd, .int .i64 yn, .int .i64 yd] 31)
      replace X := X.alloc (.cells #[.int .i64 sn, .int .i64 sd, .int .i64 yn, .int .i64 yd] 31)
      replace SB := SB.alloc (.cells #[.int .i64 sn, .int .i64 sd, .int .i64 yn, .int .i64 yd] 31)
      generalize hg9 : v3.heap.size = g9 at *
      clear hg9
      generalize v3.alloc _ = v4 at *
      have HR := Lib.hid R
      have HX := Lib.hid X
      have HY := Lib.hid Y
      have HS := Lib.hid SB
      have HH := Lib.hid HB
      clear R X Y SB HB e1 e2 e3
      go_loopw [88] (fun i ws => ∃ k : Int, (k = 0 ∨ k = 1 ∨ k = 2) ∧ i = .int .i64 k ∧ Hid (Blk ws g #[.int .i64 a, .int .i64 b, .int .i64 (a % 2097160 - 1048576 - 4), .int .i64 b, .int .i64 (a % 2097160 - 1048576 - 4), .int .i64 (b % 9000 - 4500)] 23) ∧ Hid (Blk ws g7 #[.int .i64 a, .int .i64 b] 23) ∧ Hid (Blk ws g9 #[.int .i64 sn, .int .i64 sd, .int .i64 yn, .int .i64 yd] 31) ∧ Hid (Blk ws w.heap.size #[.int .i64 sn, .int .i64 sd] 31) ∧ Hid (Below w.heap.size w ws)) (fun i _ => (2 - intOf i).toNat)
      case atStart => exact ⟨0, .inl rfl, rfl, HR, HX, HY, HS, HH⟩
      case round =>
        clear HR HX HY HS HH
        obtain ⟨k, hk, rfl, R0, X0, Y0, S0, B0⟩ := hrel
        have R := R0.out
        have X := X0.out
        have Y := Y0.out
        have SB := S0.out
        have HB := B0.out
        clear R0 B0 S0 X0 Y0
        rcases hk with rfl | rfl | rfl
        · have c1 : wr.cell? ⟨g9, 0, none⟩ = some (.int .i64 sn) := Y.cell 0
          have c2 : wr.cell? ⟨g9, 1, none⟩ = some (.int .i64 sd) := Y.cell 1
          have k0 : wr.cell? ⟨g7, 0, none⟩ = some (.int .i64 a) := X.cell 0
          have h7 : g7 < wr.heap.size := X.lt
          go_wp2_with fail
          clear c1 c2 k0 h7
          have Z : Blk (wr.alloc (.cells #[.int .i64 sn, .int .i64 sd] 31)) wr.heap.size #[.int .i64 sn, .int .i64 sd] 31 := Blk.new wr _ _ rfl
          replace HB := balloc HB (.cells #[.int .i64 sn, .int .i64 sd] 31)
          replace R := R.alloc (.cells #[.int .i64 sn, .int .i64 sd] 31)
          replace X := X.alloc (.cells #[.int .i64 sn, .int .i64 sd] 31)
          replace Y := Y.alloc (.cells #[.int .i64 sn, .int .i64 sd] 31)
          replace SB := SB.alloc (.cells #[.int .i64 sn, .int .i64 sd] 31)
          generalize wr.heap.size = g8 at *
          generalize wr.alloc _ = z0 at *
          refine (part_any _ _ _ _).mono ?_
          rintro e z1 ⟨rfl, hb⟩
          replace HB := bthen' HB hb
          replace R := R.below hb
          replace X := X.below hb
          replace Y := Y.below hb
          replace Z := Z.below hb
          replace SB := SB.below hb
          clear hb
          have k1 : z1.cell? ⟨g7, 0, none⟩ = some (.int .i64 a) := X.cell 0
          have k5 : z1.cell? ⟨g8, 0, none⟩ = some (.int .i64 sn) := Z.cell 0
          have k6 : z1.cell? ⟨g8, 1, none⟩ = some (.int .i64 sd) := Z.cell 1
          go_wp2_with fail
          clear k1 k5 k6
          refine (rpart_any _ _ _ _).mono ?_
          rintro e z2 ⟨rfl, hb⟩
          replace HB := bthen' HB hb
          replace R := R.below hb
          replace X := X.below hb
          replace Y := Y.below hb
          replace SB := SB.below hb
          clear hb Z
          generalize partQ a sn sd = pq
          generalize partOk a sn sd = po
          have e1 : (pq != pq) = false := by simp
          have e2 : (po != po) = false := by simp
          have HR := Lib.hid R
          have HX := Lib.hid X
          have HY := Lib.hid Y
          have HS := Lib.hid SB
          have HH := Lib.hid HB
          clear R X Y SB HB
          go_wp2
          go_roundw
          case rel => exact ⟨1, by simp, rfl, HR, HX, HY, HS, HH⟩
          case measure => simp [intOf]
        · have c1 : wr.cell? ⟨g9, 2, none⟩ = some (.int .i64 yn) := Y.cell 2
          have c2 : wr.cell? ⟨g9, 3, none⟩ = some (.int .i64 yd) := Y.cell 3
          have k0 : wr.cell? ⟨g7, 0, none⟩ = some (.int .i64 a) := X.cell 0
          have h7 : g7 < wr.heap.size := X.lt
          go_wp2_with fail
          clear c1 c2 k0 h7
          have Z : Blk (wr.alloc (.cells #[.int .i64 yn, .int .i64 yd] 31)) wr.heap.size #[.int .i64 yn, .int .i64 yd] 31 := Blk.new wr _ _ rfl
          replace HB := balloc HB (.cells #[.int .i64 yn, .int .i64 yd] 31)
          replace R := R.alloc (.cells #[.int .i64 yn, .int .i64 yd] 31)
          replace X := X.alloc (.cells #[.int .i64 yn, .int .i64 yd] 31)
          replace Y := Y.alloc (.cells #[.int .i64 yn, .int .i64 yd] 31)
          replace SB := SB.alloc (.cells #[.int .i64 yn, .int .i64 yd] 31)
          generalize wr.heap.size = g8 at *
          generalize wr.alloc _ = z0 at *
          refine (part_any _ _ _ _).mono ?_
          rintro e z1 ⟨rfl, hb⟩
          replace HB := bthen' HB hb
          replace R := R.below hb
          replace X := X.below hb
          replace Y := Y.below hb
          replace Z := Z.below hb
          replace SB := SB.below hb
          clear hb
          have k1 : z1.cell? ⟨g7, 0, none⟩ = some (.int .i64 a) := X.cell 0
          have k5 : z1.cell? ⟨g8, 0, none⟩ = some (.int .i64 yn) := Z.cell 0
          have k6 : z1.cell? ⟨g8, 1, none⟩ = some (.int .i64 yd) := Z.cell 1
          go_wp2_with fail
          clear k1 k5 k6
          refine (rpart_any _ _ _ _).mono ?_
          rintro e z2 ⟨rfl, hb⟩
          replace HB := bthen' HB hb
          replace R := R.below hb
          replace X := X.below hb
          replace Y := Y.below hb
          replace SB := SB.below hb
          clear hb Z
          generalize partQ a yn yd = pq
          generalize partOk a yn yd = po
          have e1 : (pq != pq) = false := by simp
          have e2 : (po != po) = false := by simp
          have HR := Lib.hid R
          have HX := Lib.hid X
          have HY := Lib.hid Y
          have HS := Lib.hid SB
          have HH := Lib.hid HB
          clear R X Y SB HB
          go_wp2
          go_roundw
          case rel => exact ⟨2, by simp, rfl, HR, HX, HY, HS, HH⟩
          case measure => simp [intOf]
        · have HR := Lib.hid R
          have HS := Lib.hid SB
          have HH := Lib.hid HB
          clear R X Y SB HB
          go_wp2
          go_roundw
          case rel => exact ⟨1, by simp, rfl, HR, HS, HH⟩
          case measure => simp [intOf]
    · have c1 : wr.cell? ⟨g, 2, none⟩ = some (.int .i64 (a % 2097160 - 1048576 - 4)) := R.cell 2
      have c2 : wr.cell? ⟨g, 3, none⟩ = some (.int .i64 b) := R.cell 3
      go_wp2_with fail
      clear c1 c2
      have X : Blk (wr.alloc (.cells #[.int .i64 (a % 2097160 - 1048576 - 4), .int .i64 b] 23)) wr.heap.size #[.int .i64 (a % 2097160 - 1048576 - 4), .int .i64 b] 23 := Blk.new wr _ _ rfl
      replace HB := balloc HB (.cells #[.int .i64 (a % 2097160 - 1048576 - 4), .int .i64 b] 23)
      replace R := R.alloc (.cells #[.int .i64 (a % 2097160 - 1048576 - 4), .int .i64 b] 23)
      replace SB := SB.alloc (.cells #[.int .i64 (a % 2097160 - 1048576 - 4), .int .i64 b] 23)
      generalize wr.heap.size = g7 at *
      generalize wr.alloc _ = v0 at *
      refine (mul_any _ _ _).mono ?_
      rintro e v1 ⟨rfl, hb⟩
      replace HB := bthen' HB hb
      replace R := R.below hb
      replace SB := SB.below hb
      replace X := X.below hb
      clear hb
      have k1 : v1.cell? ⟨g7, 0, none⟩ = some (.int .i64 (a % 2097160 - 1048576 - 4)) := X.cell 0
      have k2 : v1.cell? ⟨g7, 1, none⟩ = some (.int .i64 b) := X.cell 1
      go_wp2_with fail
      refine (rmul_any _ _ _).mono ?_
      rintro e w' ⟨rfl, rfl⟩
      generalize mulQ (a % 2097160 - 1048576 - 4) b = mq
      generalize mulOk (a % 2097160 - 1048576 - 4) b = mo
      have k3 : v1.cell? ⟨w.heap.size, 0, none⟩ = some (.int .i64 sn) := SB.cell 0
      have k4 : v1.cell? ⟨w.heap.size, 1, none⟩ = some (.int .i64 sd) := SB.cell 1
      have e1 : (mq != mq) = false := by simp
      have e2 : (mo != mo) = false := by simp
      go_wp2_with fail
      go_quiet ((first | (go_at_call 21; exact quiet_same (clamp_any _ _ _ _)) | (go_at_call 22; exact quiet_same (rclamp_any _ _ _ _))))
      have e3 : (clampI (a % 2097160 - 1048576 - 4) b sn != clampI (a % 2097160 - 1048576 - 4) b sn) = false := by simp
      clear k1 k2 k3 k4
      have HB : Below w.heap.size w (v1.drewN nq) := bdrewN HB nq
      have R : Blk (v1.drewN nq) g #[.int .i64 a, .int .i64 b, .int .i64 (a % 2097160 - 1048576 - 4), .int .i64 b, .int .i64 (a % 2097160 - 1048576 - 4), .int .i64 (b % 9000 - 4500)] 23 := R.drewN nq
      have X : Blk (v1.drewN nq) g7 #[.int .i64 (a % 2097160 - 1048576 - 4), .int .i64 b] 23 := X.drewN nq
      have SB : Blk (v1.drewN nq) w.heap.size #[.int .i64 sn, .int .i64 sd] 31 := SB.drewN nq
      generalize v1.drewN nq = v2 at *
      have k3 : v2.cell? ⟨w.heap.size, 0, none⟩ = some (.int .i64 sn) := SB.cell 0
      have k4 : v2.cell? ⟨w.heap.size, 1, none⟩ = some (.int .i64 sd) := SB.cell 1
      go_wp2_with fail
      go_region_held3 (fun w' => w'.cell? ⟨w.heap.size, 0, none⟩ = some (.int .i64 sn) ∧ w'.cell? ⟨w.heap.size, 1, none⟩ = some (.int .i64 sd)) (first | exact ⟨k3, k4⟩ | go_keep) (first | (go_at_call 23; refine (rmade_any _ _ _).mono ?_; rintro e v3 ⟨rfl, hb⟩; have k5 : v3.cell? ⟨w.heap.size, 0, none⟩ = some (.int .i64 sn) := (SB.drew.below hb).cell 0; have k6 : v3.cell? ⟨w.heap.size, 1, none⟩ = some (.int .i64 sd) := (SB.drew.below hb).cell 1))
      replace HB := bthen' (bdrew HB) hb
      replace R := R.drew.below hb
      replace X := X.drew.below hb
      replace SB := SB.drew.below hb
      clear hb k3 k4 k5 k6
      go_wp2_with fail
      generalize madeN sn sd = yn at *
      generalize madeD sn sd = yd at *
      have Y : Blk (v3.alloc (.cells #[.int .i64 sn, .int .i64 sd, .int .i64 yn, .int .i64 yd] 31)) v3.heap.size #[.int .i64 sn, .int .i64 sd, .int .i64 yn, .int .i64 yd] 31 := Blk.new v3 _ _ rfl
      replace HB := balloc HB (.cells #[.int .i64 sn, .int .i64 sd, .int .i64 yn, .int .i64 yd] 31)
      replace R := R.alloc (.cells #[.int .i64 sn, .int .i64 sd, .int .i64 yn, .int .i64 yd] 31)
      replace X := X.alloc (.cells #[.int .i64 sn, .int .i64 sd, .int .i64 yn, .int .i64 yd] 31)
      replace SB := SB.alloc (.cells #[.int .i64 sn, .int .i64 sd, .int .i64 yn, .int .i64 yd] 31)
      generalize hg9 : v3.heap.size = g9 at *
      clear hg9
      generalize v3.alloc _ = v4 at *
      have HR := Lib.hid R
      have HX := Lib.hid X
      have HY := Lib.hid Y
      have HS := Lib.hid SB
      have HH := Lib.hid HB
      clear R X Y SB HB e1 e2 e3
      go_loopw [88] (fun i ws => ∃ k : Int, (k = 0 ∨ k = 1 ∨ k = 2) ∧ i = .int .i64 k ∧ Hid (Blk ws g #[.int .i64 a, .int .i64 b, .int .i64 (a % 2097160 - 1048576 - 4), .int .i64 b, .int .i64 (a % 2097160 - 1048576 - 4), .int .i64 (b % 9000 - 4500)] 23) ∧ Hid (Blk ws g7 #[.int .i64 (a % 2097160 - 1048576 - 4), .int .i64 b] 23) ∧ Hid (Blk ws g9 #[.int .i64 sn, .int .i64 sd, .int .i64 yn, .int .i64 yd] 31) ∧ Hid (Blk ws w.heap.size #[.int .i64 sn, .int .i64 sd] 31) ∧ Hid (Below w.heap.size w ws)) (fun i _ => (2 - intOf i).toNat)
      case atStart => exact ⟨0, .inl rfl, rfl, HR, HX, HY, HS, HH⟩
      case round =>
        clear HR HX HY HS HH
        obtain ⟨k, hk, rfl, R0, X0, Y0, S0, B0⟩ := hrel
        have R := R0.out
        have X := X0.out
        have Y := Y0.out
        have SB := S0.out
        have HB := B0.out
        clear R0 B0 S0 X0 Y0
        rcases hk with rfl | rfl | rfl
        · have c1 : wr.cell? ⟨g9, 0, none⟩ = some (.int .i64 sn) := Y.cell 0
          have c2 : wr.cell? ⟨g9, 1, none⟩ = some (.int .i64 sd) := Y.cell 1
          have k0 : wr.cell? ⟨g7, 0, none⟩ = some (.int .i64 (a % 2097160 - 1048576 - 4)) := X.cell 0
          have h7 : g7 < wr.heap.size := X.lt
          go_wp2_with fail
          clear c1 c2 k0 h7
          have Z : Blk (wr.alloc (.cells #[.int .i64 sn, .int .i64 sd] 31)) wr.heap.size #[.int .i64 sn, .int .i64 sd] 31 := Blk.new wr _ _ rfl
          replace HB := balloc HB (.cells #[.int .i64 sn, .int .i64 sd] 31)
          replace R := R.alloc (.cells #[.int .i64 sn, .int .i64 sd] 31)
          replace X := X.alloc (.cells #[.int .i64 sn, .int .i64 sd] 31)
          replace Y := Y.alloc (.cells #[.int .i64 sn, .int .i64 sd] 31)
          replace SB := SB.alloc (.cells #[.int .i64 sn, .int .i64 sd] 31)
          generalize wr.heap.size = g8 at *
          generalize wr.alloc _ = z0 at *
          refine (part_any _ _ _ _).mono ?_
          rintro e z1 ⟨rfl, hb⟩
          replace HB := bthen' HB hb
          replace R := R.below hb
          replace X := X.below hb
          replace Y := Y.below hb
          replace Z := Z.below hb
          replace SB := SB.below hb
          clear hb
          have k1 : z1.cell? ⟨g7, 0, none⟩ = some (.int .i64 (a % 2097160 - 1048576 - 4)) := X.cell 0
          have k5 : z1.cell? ⟨g8, 0, none⟩ = some (.int .i64 sn) := Z.cell 0
          have k6 : z1.cell? ⟨g8, 1, none⟩ = some (.int .i64 sd) := Z.cell 1
          go_wp2_with fail
          clear k1 k5 k6
          refine (rpart_any _ _ _ _).mono ?_
          rintro e z2 ⟨rfl, hb⟩
          replace HB := bthen' HB hb
          replace R := R.below hb
          replace X := X.below hb
          replace Y := Y.below hb
          replace SB := SB.below hb
          clear hb Z
          generalize partQ (a % 2097160 - 1048576 - 4) sn sd = pq
          generalize partOk (a % 2097160 - 1048576 - 4) sn sd = po
          have e1 : (pq != pq) = false := by simp
          have e2 : (po != po) = false := by simp
          have HR := Lib.hid R
          have HX := Lib.hid X
          have HY := Lib.hid Y
          have HS := Lib.hid SB
          have HH := Lib.hid HB
          clear R X Y SB HB
          go_wp2
          go_roundw
          case rel => exact ⟨1, by simp, rfl, HR, HX, HY, HS, HH⟩
          case measure => simp [intOf]
        · have c1 : wr.cell? ⟨g9, 2, none⟩ = some (.int .i64 yn) := Y.cell 2
          have c2 : wr.cell? ⟨g9, 3, none⟩ = some (.int .i64 yd) := Y.cell 3
          have k0 : wr.cell? ⟨g7, 0, none⟩ = some (.int .i64 (a % 2097160 - 1048576 - 4)) := X.cell 0
          have h7 : g7 < wr.heap.size := X.lt
          go_wp2_with fail
          clear c1 c2 k0 h7
          have Z : Blk (wr.alloc (.cells #[.int .i64 yn, .int .i64 yd] 31)) wr.heap.size #[.int .i64 yn, .int .i64 yd] 31 := Blk.new wr _ _ rfl
          replace HB := balloc HB (.cells #[.int .i64 yn, .int .i64 yd] 31)
          replace R := R.alloc (.cells #[.int .i64 yn, .int .i64 yd] 31)
          replace X := X.alloc (.cells #[.int .i64 yn, .int .i64 yd] 31)
          replace Y := Y.alloc (.cells #[.int .i64 yn, .int .i64 yd] 31)
          replace SB := SB.alloc (.cells #[.int .i64 yn, .int .i64 yd] 31)
          generalize wr.heap.size = g8 at *
          generalize wr.alloc _ = z0 at *
          refine (part_any _ _ _ _).mono ?_
          rintro e z1 ⟨rfl, hb⟩
          replace HB := bthen' HB hb
          replace R := R.below hb
          replace X := X.below hb
          replace Y := Y.below hb
          replace Z := Z.below hb
          replace SB := SB.below hb
          clear hb
          have k1 : z1.cell? ⟨g7, 0, none⟩ = some (.int .i64 (a % 2097160 - 1048576 - 4)) := X.cell 0
          have k5 : z1.cell? ⟨g8, 0, none⟩ = some (.int .i64 yn) := Z.cell 0
          have k6 : z1.cell? ⟨g8, 1, none⟩ = some (.int .i64 yd) := Z.cell 1
          go_wp2_with fail
          clear k1 k5 k6
          refine (rpart_any _ _ _ _).mono ?_
          rintro e z2 ⟨rfl, hb⟩
          replace HB := bthen' HB hb
          replace R := R.below hb
          replace X := X.below hb
          replace Y := Y.below hb
          replace SB := SB.below hb
          clear hb Z
          generalize partQ (a % 2097160 - 1048576 - 4) yn yd = pq
          generalize partOk (a % 2097160 - 1048576 - 4) yn yd = po
          have e1 : (pq != pq) = false := by simp
          have e2 : (po != po) = false := by simp
          have HR := Lib.hid R
          have HX := Lib.hid X
          have HY := Lib.hid Y
          have HS := Lib.hid SB
          have HH := Lib.hid HB
          clear R X Y SB HB
          go_wp2
          go_roundw
          case rel => exact ⟨2, by simp, rfl, HR, HX, HY, HS, HH⟩
          case measure => simp [intOf]
        · have HR := Lib.hid R
          have HS := Lib.hid SB
          have HH := Lib.hid HB
          clear R X Y SB HB
          go_wp2
          go_roundw
          case rel => exact ⟨2, by simp, rfl, HR, HS, HH⟩
          case measure => simp [intOf]
    · have c1 : wr.cell? ⟨g, 4, none⟩ = some (.int .i64 (a % 2097160 - 1048576 - 4)) := R.cell 4
      have c2 : wr.cell? ⟨g, 5, none⟩ = some (.int .i64 (b % 9000 - 4500)) := R.cell 5
      go_wp2_with fail
      clear c1 c2
      have X : Blk (wr.alloc (.cells #[.int .i64 (a % 2097160 - 1048576 - 4), .int .i64 (b % 9000 - 4500)] 23)) wr.heap.size #[.int .i64 (a % 2097160 - 1048576 - 4), .int .i64 (b % 9000 - 4500)] 23 := Blk.new wr _ _ rfl
      replace HB := balloc HB (.cells #[.int .i64 (a % 2097160 - 1048576 - 4), .int .i64 (b % 9000 - 4500)] 23)
      replace R := R.alloc (.cells #[.int .i64 (a % 2097160 - 1048576 - 4), .int .i64 (b % 9000 - 4500)] 23)
      replace SB := SB.alloc (.cells #[.int .i64 (a % 2097160 - 1048576 - 4), .int .i64 (b % 9000 - 4500)] 23)
      generalize wr.heap.size = g7 at *
      generalize wr.alloc _ = v0 at *
      refine (mul_any _ _ _).mono ?_
      rintro e v1 ⟨rfl, hb⟩
      replace HB := bthen' HB hb
      replace R := R.below hb
      replace SB := SB.below hb
      replace X := X.below hb
      clear hb
      have k1 : v1.cell? ⟨g7, 0, none⟩ = some (.int .i64 (a % 2097160 - 1048576 - 4)) := X.cell 0
      have k2 : v1.cell? ⟨g7, 1, none⟩ = some (.int .i64 (b % 9000 - 4500)) := X.cell 1
      go_wp2_with fail
      refine (rmul_any _ _ _).mono ?_
      rintro e w' ⟨rfl, rfl⟩
      generalize mulQ (a % 2097160 - 1048576 - 4) (b % 9000 - 4500) = mq
      generalize mulOk (a % 2097160 - 1048576 - 4) (b % 9000 - 4500) = mo
      have k3 : v1.cell? ⟨w.heap.size, 0, none⟩ = some (.int .i64 sn) := SB.cell 0
      have k4 : v1.cell? ⟨w.heap.size, 1, none⟩ = some (.int .i64 sd) := SB.cell 1
      have e1 : (mq != mq) = false := by simp
      have e2 : (mo != mo) = false := by simp
      go_wp2_with fail
      go_quiet ((first | (go_at_call 21; exact quiet_same (clamp_any _ _ _ _)) | (go_at_call 22; exact quiet_same (rclamp_any _ _ _ _))))
      have e3 : (clampI (a % 2097160 - 1048576 - 4) (b % 9000 - 4500) sn != clampI (a % 2097160 - 1048576 - 4) (b % 9000 - 4500) sn) = false := by simp
      clear k1 k2 k3 k4
      have HB : Below w.heap.size w (v1.drewN nq) := bdrewN HB nq
      have R : Blk (v1.drewN nq) g #[.int .i64 a, .int .i64 b, .int .i64 (a % 2097160 - 1048576 - 4), .int .i64 b, .int .i64 (a % 2097160 - 1048576 - 4), .int .i64 (b % 9000 - 4500)] 23 := R.drewN nq
      have X : Blk (v1.drewN nq) g7 #[.int .i64 (a % 2097160 - 1048576 - 4), .int .i64 (b % 9000 - 4500)] 23 := X.drewN nq
      have SB : Blk (v1.drewN nq) w.heap.size #[.int .i64 sn, .int .i64 sd] 31 := SB.drewN nq
      generalize v1.drewN nq = v2 at *
      have k3 : v2.cell? ⟨w.heap.size, 0, none⟩ = some (.int .i64 sn) := SB.cell 0
      have k4 : v2.cell? ⟨w.heap.size, 1, none⟩ = some (.int .i64 sd) := SB.cell 1
      go_wp2_with fail
      go_region_held3 (fun w' => w'.cell? ⟨w.heap.size, 0, none⟩ = some (.int .i64 sn) ∧ w'.cell? ⟨w.heap.size, 1, none⟩ = some (.int .i64 sd)) (first | exact ⟨k3, k4⟩ | go_keep) (first | (go_at_call 23; refine (rmade_any _ _ _).mono ?_; rintro e v3 ⟨rfl, hb⟩; have k5 : v3.cell? ⟨w.heap.size, 0, none⟩ = some (.int .i64 sn) := (SB.drew.below hb).cell 0; have k6 : v3.cell? ⟨w.heap.size, 1, none⟩ = some (.int .i64 sd) := (SB.drew.below hb).cell 1))
      replace HB := bthen' (bdrew HB) hb
      replace R := R.drew.below hb
      replace X := X.drew.below hb
      replace SB := SB.drew.below hb
      clear hb k3 k4 k5 k6
      go_wp2_with fail
      generalize madeN sn sd = yn at *
      generalize madeD sn sd = yd at *
      have Y : Blk (v3.alloc (.cells #[.int .i64 sn, .int .i64 sd, .int .i64 yn, .int .i64 yd] 31)) v3.heap.size #[.int .i64 sn, .int .i64 sd, .int .i64 yn, .int .i64 yd] 31 := Blk.new v3 _ _ rfl
      replace HB := balloc HB (.cells #[.int .i64 sn, .int .i64 sd, .int .i64 yn, .int .i64 yd] 31)
      replace R := R.alloc (.cells #[.int .i64 sn, .int .i64 sd, .int .i64 yn, .int .i64 yd] 31)
      replace X := X.alloc (.cells #[.int .i64 sn, .int .i64 sd, .int .i64 yn, .int .i64 yd] 31)
      replace SB := SB.alloc (.cells #[.int .i64 sn, .int .i64 sd, .int .i64 yn, .int .i64 yd] 31)
      generalize hg9 : v3.heap.size = g9 at *
      clear hg9
      generalize v3.alloc _ = v4 at *
      have HR := Lib.hid R
      have HX := Lib.hid X
      have HY := Lib.hid Y
      have HS := Lib.hid SB
      have HH := Lib.hid HB
      clear R X Y SB HB e1 e2 e3
      go_loopw [88] (fun i ws => ∃ k : Int, (k = 0 ∨ k = 1 ∨ k = 2) ∧ i = .int .i64 k ∧ Hid (Blk ws g #[.int .i64 a, .int .i64 b, .int .i64 (a % 2097160 - 1048576 - 4), .int .i64 b, .int .i64 (a % 2097160 - 1048576 - 4), .int .i64 (b % 9000 - 4500)] 23) ∧ Hid (Blk ws g7 #[.int .i64 (a % 2097160 - 1048576 - 4), .int .i64 (b % 9000 - 4500)] 23) ∧ Hid (Blk ws g9 #[.int .i64 sn, .int .i64 sd, .int .i64 yn, .int .i64 yd] 31) ∧ Hid (Blk ws w.heap.size #[.int .i64 sn, .int .i64 sd] 31) ∧ Hid (Below w.heap.size w ws)) (fun i _ => (2 - intOf i).toNat)
      case atStart => exact ⟨0, .inl rfl, rfl, HR, HX, HY, HS, HH⟩
      case round =>
        clear HR HX HY HS HH
        obtain ⟨k, hk, rfl, R0, X0, Y0, S0, B0⟩ := hrel
        have R := R0.out
        have X := X0.out
        have Y := Y0.out
        have SB := S0.out
        have HB := B0.out
        clear R0 B0 S0 X0 Y0
        rcases hk with rfl | rfl | rfl
        · have c1 : wr.cell? ⟨g9, 0, none⟩ = some (.int .i64 sn) := Y.cell 0
          have c2 : wr.cell? ⟨g9, 1, none⟩ = some (.int .i64 sd) := Y.cell 1
          have k0 : wr.cell? ⟨g7, 0, none⟩ = some (.int .i64 (a % 2097160 - 1048576 - 4)) := X.cell 0
          have h7 : g7 < wr.heap.size := X.lt
          go_wp2_with fail
          clear c1 c2 k0 h7
          have Z : Blk (wr.alloc (.cells #[.int .i64 sn, .int .i64 sd] 31)) wr.heap.size #[.int .i64 sn, .int .i64 sd] 31 := Blk.new wr _ _ rfl
          replace HB := balloc HB (.cells #[.int .i64 sn, .int .i64 sd] 31)
          replace R := R.alloc (.cells #[.int .i64 sn, .int .i64 sd] 31)
          replace X := X.alloc (.cells #[.int .i64 sn, .int .i64 sd] 31)
          replace Y := Y.alloc (.cells #[.int .i64 sn, .int .i64 sd] 31)
          replace SB := SB.alloc (.cells #[.int .i64 sn, .int .i64 sd] 31)
          generalize wr.heap.size = g8 at *
          generalize wr.alloc _ = z0 at *
          refine (part_any _ _ _ _).mono ?_
          rintro e z1 ⟨rfl, hb⟩
          replace HB := bthen' HB hb
          replace R := R.below hb
          replace X := X.below hb
          replace Y := Y.below hb
          replace Z := Z.below hb
          replace SB := SB.below hb
          clear hb
          have k1 : z1.cell? ⟨g7, 0, none⟩ = some (.int .i64 (a % 2097160 - 1048576 - 4)) := X.cell 0
          have k5 : z1.cell? ⟨g8, 0, none⟩ = some (.int .i64 sn) := Z.cell 0
          have k6 : z1.cell? ⟨g8, 1, none⟩ = some (.int .i64 sd) := Z.cell 1
          go_wp2_with fail
          clear k1 k5 k6
          refine (rpart_any _ _ _ _).mono ?_
          rintro e z2 ⟨rfl, hb⟩
          replace HB := bthen' HB hb
          replace R := R.below hb
          replace X := X.below hb
          replace Y := Y.below hb
          replace SB := SB.below hb
          clear hb Z
          generalize partQ (a % 2097160 - 1048576 - 4) sn sd = pq
          generalize partOk (a % 2097160 - 1048576 - 4) sn sd = po
          have e1 : (pq != pq) = false := by simp
          have e2 : (po != po) = false := by simp
          have HR := Lib.hid R
          have HX := Lib.hid X
          have HY := Lib.hid Y
          have HS := Lib.hid SB
          have HH := Lib.hid HB
          clear R X Y SB HB
          go_wp2
          go_roundw
          case rel => exact ⟨1, by simp, rfl, HR, HX, HY, HS, HH⟩
          case measure => simp [intOf]
        · have c1 : wr.cell? ⟨g9, 2, none⟩ = some (.int .i64 yn) := Y.cell 2
          have c2 : wr.cell? ⟨g9, 3, none⟩ = some (.int .i64 yd) := Y.cell 3
          have k0 : wr.cell? ⟨g7, 0, none⟩ = some (.int .i64 (a % 2097160 - 1048576 - 4)) := X.cell 0
          have h7 : g7 < wr.heap.size := X.lt
          go_wp2_with fail
          clear c1 c2 k0 h7
          have Z : Blk (wr.alloc (.cells #[.int .i64 yn, .int .i64 yd] 31)) wr.heap.size #[.int .i64 yn, .int .i64 yd] 31 := Blk.new wr _ _ rfl
          replace HB := balloc HB (.cells #[.int .i64 yn, .int .i64 yd] 31)
          replace R := R.alloc (.cells #[.int .i64 yn, .int .i64 yd] 31)
          replace X := X.alloc (.cells #[.int .i64 yn, .int .i64 yd] 31)
          replace Y := Y.alloc (.cells #[.int .i64 yn, .int .i64 yd] 31)
          replace SB := SB.alloc (.cells #[.int .i64 yn, .int .i64 yd] 31)
          generalize wr.heap.size = g8 at *
          generalize wr.alloc _ = z0 at *
          refine (part_any _ _ _ _).mono ?_
          rintro e z1 ⟨rfl, hb⟩
          replace HB := bthen' HB hb
          replace R := R.below hb
          replace X := X.below hb
          replace Y := Y.below hb
          replace Z := Z.below hb
          replace SB := SB.below hb
          clear hb
          have k1 : z1.cell? ⟨g7, 0, none⟩ = some (.int .i64 (a % 2097160 - 1048576 - 4)) := X.cell 0
          have k5 : z1.cell? ⟨g8, 0, none⟩ = some (.int .i64 yn) := Z.cell 0
          have k6 : z1.cell? ⟨g8, 1, none⟩ = some (.int .i64 yd) := Z.cell 1
          go_wp2_with fail
          clear k1 k5 k6
          refine (rpart_any _ _ _ _).mono ?_
          rintro e z2 ⟨rfl, hb⟩
          replace HB := bthen' HB hb
          replace R := R.below hb
          replace X := X.below hb
          replace Y := Y.below hb
          replace SB := SB.below hb
          clear hb Z
          generalize partQ (a % 2097160 - 1048576 - 4) yn yd = pq
          generalize partOk (a % 2097160 - 1048576 - 4) yn yd = po
          have e1 : (pq != pq) = false := by simp
          have e2 : (po != po) = false := by simp
          have HR := Lib.hid R
          have HX := Lib.hid X
          have HY := Lib.hid Y
          have HS := Lib.hid SB
          have HH := Lib.hid HB
          clear R X Y SB HB
          go_wp2
          go_roundw
          case rel => exact ⟨2, by simp, rfl, HR, HX, HY, HS, HH⟩
          case measure => simp [intOf]
        · have HR := Lib.hid R
          have HS := Lib.hid SB
          have HH := Lib.hid HB
          clear R X Y SB HB
          go_wp2
          go_roundw
          case rel => exact ⟨3, by simp, rfl, HR, HS, HH⟩
          case measure => simp [intOf]
    · go_wp2
      go_ret
      exact ⟨rfl, HB⟩

end Go.Proofs.Ytkdcbinaglidoaa
