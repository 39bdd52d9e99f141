/- Contracts of Times and Line of package abugidaref01. -/
import Derived.Test.YtkdcbinaglidoaaFixS
set_option linter.unusedVariables false
set_option linter.unusedSimpArgs false
namespace Go.Proofs.Ytkdcbinaglidoaa
open Go.RowKit

set_option maxHeartbeats 2000000 in
theorem rtimes_yes (an ad bn bd P Q g x y : Int) (w : World) (h1 : rightB an ad = true) (h2 : rightB bn bd = true) (eP : an * bn = P) (eQ : ad * bd = Q) (eg : gcdI P Q = g) (ex : P / g = x) (ey : Q / g = y) (h3 : y ≤ 262144) :
    Calls Try.prog 27 #[.agg #[.int .i64 an, .int .i64 ad], .agg #[.int .i64 bn, .int .i64 bd]] w fun e w' => e = .returned (.tuple #[.agg #[.int .i64 x, .int .i64 y], .bool true]) ∧ Below w.heap.size w w' := by
  obtain ⟨p1, p2, p3, p4⟩ := right_prod h1 h2
  rw [eP] at p1 p2
  rw [eQ] at p3 p4
  obtain ⟨g1, g2, g3, g4, g5, g6⟩ := gcd_facts p1 p3
  rw [eg] at g1 g2 g3 g4 g5 g6
  have b0 : (g == 0) = false := by simp; omega
  rw [ex] at g3 g4
  rw [ey] at g5 g6
  have EX : P.tdiv g = x := by rw [Int.tdiv_eq_ediv_of_nonneg p1]; exact ex
  have EY : Q.tdiv g = y := by rw [Int.tdiv_eq_ediv_of_nonneg (by omega)]; exact ey
  have q1 : -9223372036854775808 ≤ an * bn := by omega
  have q2 : an * bn ≤ 9223372036854775807 := by omega
  have q3 : -9223372036854775808 ≤ ad * bd := by omega
  have q4 : ad * bd ≤ 9223372036854775807 := by omega
  have H1 := Lib.hid h1
  have H2 := Lib.hid h2
  have HP := Lib.hid eP
  have HQ := Lib.hid eQ
  have HG := Lib.hid eg
  have HEX := Lib.hid EX
  have HEY := Lib.hid EY
  have hex := Lib.hid ex
  have hey := Lib.hid ey
  clear h1 h2 eP eQ eg EX EY ex ey
  go_enter Try.func27, Try.ntmps27
  go_wp2_with fail
  refine (rright_any _ _ _).mono ?_
  rintro e w1 ⟨rfl, hb1⟩
  rw [H1.out]
  obtain ⟨hc1, hf1⟩ := bcell hb1
  go_wp2_with fail
  refine (rright_any _ _ _).mono ?_
  rintro e w2 ⟨rfl, hb2⟩
  rw [H2.out]
  obtain ⟨hc2, hf2⟩ := bcell hb2
  have hz1 := hb1.size
  have hz2 := hb2.size
  simp at hz1
  have B0 : Blk w2 w.heap.size #[.int .i64 an, .int .i64 ad] 31 := (((((Blk.new w #[.int .i64 an, .int .i64 ad] 31 rfl).alloc (.cells #[.int .i64 bn, .int .i64 bd] 31)).alloc (.cells #[.int .i64 0, .int .i64 0] 31)).below hb1).below hb2)
  have B1 : Blk w2 (w.heap.size + 1) #[.int .i64 bn, .int .i64 bd] 31 := (((Blk.new (w.alloc (.cells #[.int .i64 an, .int .i64 ad] 31)) #[.int .i64 bn, .int .i64 bd] 31 (by simp)).alloc (.cells #[.int .i64 0, .int .i64 0] 31)).below hb1).below hb2
  have B2 : Blk w2 (w.heap.size + 1 + 1) #[.int .i64 0, .int .i64 0] 31 := ((Blk.new ((w.alloc (.cells #[.int .i64 an, .int .i64 ad] 31)).alloc (.cells #[.int .i64 bn, .int .i64 bd] 31)) #[.int .i64 0, .int .i64 0] 31 (by simp)).below hb1).below hb2
  have HB : Below w.heap.size w w2 := bthen' (bthen' (balloc (balloc (balloc (Below.refl _ _) _) _) _) hb1) hb2
  clear hb1 hb2 hc1 hc2 hf1 hf2
  have k1 : w2.cell? ⟨w.heap.size, 0, none⟩ = some (.int .i64 an) := B0.cell 0
  have k2 : w2.cell? ⟨w.heap.size, 1, none⟩ = some (.int .i64 ad) := B0.cell 1
  have k3 : w2.cell? ⟨w.heap.size + 1, 0, none⟩ = some (.int .i64 bn) := B1.cell 0
  have k4 : w2.cell? ⟨w.heap.size + 1, 1, none⟩ = some (.int .i64 bd) := B1.cell 1
  go_wp2_with fail
  rw [HP.out, HQ.out]
  rw [← Int.toNat_of_nonneg p1, ← Int.toNat_of_nonneg (show 0 ≤ Q by omega)]
  refine (rcommon_any P.toNat Q.toNat _ (by omega) (by omega)).mono ?_
  rintro e w3 ⟨rfl, ⟨m, rfl⟩⟩
  rw [Int.toNat_of_nonneg p1, Int.toNat_of_nonneg (show 0 ≤ Q by omega)]
  rw [show ((Nat.gcd P.toNat Q.toNat : Nat) : Int) = g from HG.out]
  clear k1 k2 k3 k4 B0 B1 HG HP HQ H1 H2 q1 q2 q3 q4
  have EX := HEX.out
  have EY := HEY.out
  have ex := hex.out
  have ey := hey.out
  have HB := bdrewN HB m
  have B2 := B2.drewN m
  generalize World.drewN _ _ = w3 at *
  have c2 : w3.cell? ⟨w.heap.size + 1 + 1, 0, none⟩ = some (.int .i64 0) := B2.cell 0
  have c3 : w3.cell? ⟨w.heap.size + 1 + 1, 1, none⟩ = some (.int .i64 0) := B2.cell 1
  have f2 : w3.frozen? ⟨w.heap.size + 1 + 1, 0, none⟩ = false := B2.frozen 0
  have f3 : w3.frozen? ⟨w.heap.size + 1 + 1, 1, none⟩ = false := B2.frozen 1
  go_wp2
  go_region
  go_wp2
  refine bodyPost_ret (res_ct rfl _ _ (w.heap.size + 1 + 1) 31 #[.int .i64 x, .int .i64 y] _ rfl ((B2.drew.put 0 _ rfl).put 1 _ rfl) rfl Try.underlying31 (by kernel_rfl)) rfl ?_
  exact ⟨rfl, bset (bset (bdrew HB) (by omega) _ _) (by omega) _ _⟩

set_option maxHeartbeats 2000000 in
theorem rtimes_no (an ad bn bd P Q g x y : Int) (w : World) (h1 : rightB an ad = true) (h2 : rightB bn bd = true) (eP : an * bn = P) (eQ : ad * bd = Q) (eg : gcdI P Q = g) (ex : P / g = x) (ey : Q / g = y) (h3 : 262144 < y) :
    Calls Try.prog 27 #[.agg #[.int .i64 an, .int .i64 ad], .agg #[.int .i64 bn, .int .i64 bd]] w fun e w' => e = .returned (.tuple #[.agg #[.int .i64 0, .int .i64 0], .bool false]) ∧ Below w.heap.size w w' := by
  obtain ⟨p1, p2, p3, p4⟩ := right_prod h1 h2
  rw [eP] at p1 p2
  rw [eQ] at p3 p4
  obtain ⟨g1, g2, g3, g4, g5, g6⟩ := gcd_facts p1 p3
  rw [eg] at g1 g2 g3 g4 g5 g6
  have b0 : (g == 0) = false := by simp; omega
  rw [ex] at g3 g4
  rw [ey] at g5 g6
  have EX : P.tdiv g = x := by rw [Int.tdiv_eq_ediv_of_nonneg p1]; exact ex
  have EY : Q.tdiv g = y := by rw [Int.tdiv_eq_ediv_of_nonneg (by omega)]; exact ey
  have q1 : -9223372036854775808 ≤ an * bn := by omega
  have q2 : an * bn ≤ 9223372036854775807 := by omega
  have q3 : -9223372036854775808 ≤ ad * bd := by omega
  have q4 : ad * bd ≤ 9223372036854775807 := by omega
  have H1 := Lib.hid h1
  have H2 := Lib.hid h2
  have HP := Lib.hid eP
  have HQ := Lib.hid eQ
  have HG := Lib.hid eg
  have HEX := Lib.hid EX
  have HEY := Lib.hid EY
  have hex := Lib.hid ex
  have hey := Lib.hid ey
  clear h1 h2 eP eQ eg EX EY ex ey
  go_enter Try.func27, Try.ntmps27
  go_wp2_with fail
  refine (rright_any _ _ _).mono ?_
  rintro e w1 ⟨rfl, hb1⟩
  rw [H1.out]
  obtain ⟨hc1, hf1⟩ := bcell hb1
  go_wp2_with fail
  refine (rright_any _ _ _).mono ?_
  rintro e w2 ⟨rfl, hb2⟩
  rw [H2.out]
  obtain ⟨hc2, hf2⟩ := bcell hb2
  have hz1 := hb1.size
  have hz2 := hb2.size
  simp at hz1
  have B0 : Blk w2 w.heap.size #[.int .i64 an, .int .i64 ad] 31 := (((((Blk.new w #[.int .i64 an, .int .i64 ad] 31 rfl).alloc (.cells #[.int .i64 bn, .int .i64 bd] 31)).alloc (.cells #[.int .i64 0, .int .i64 0] 31)).below hb1).below hb2)
  have B1 : Blk w2 (w.heap.size + 1) #[.int .i64 bn, .int .i64 bd] 31 := (((Blk.new (w.alloc (.cells #[.int .i64 an, .int .i64 ad] 31)) #[.int .i64 bn, .int .i64 bd] 31 (by simp)).alloc (.cells #[.int .i64 0, .int .i64 0] 31)).below hb1).below hb2
  have B2 : Blk w2 (w.heap.size + 1 + 1) #[.int .i64 0, .int .i64 0] 31 := ((Blk.new ((w.alloc (.cells #[.int .i64 an, .int .i64 ad] 31)).alloc (.cells #[.int .i64 bn, .int .i64 bd] 31)) #[.int .i64 0, .int .i64 0] 31 (by simp)).below hb1).below hb2
  have HB : Below w.heap.size w w2 := bthen' (bthen' (balloc (balloc (balloc (Below.refl _ _) _) _) _) hb1) hb2
  clear hb1 hb2 hc1 hc2 hf1 hf2
  have k1 : w2.cell? ⟨w.heap.size, 0, none⟩ = some (.int .i64 an) := B0.cell 0
  have k2 : w2.cell? ⟨w.heap.size, 1, none⟩ = some (.int .i64 ad) := B0.cell 1
  have k3 : w2.cell? ⟨w.heap.size + 1, 0, none⟩ = some (.int .i64 bn) := B1.cell 0
  have k4 : w2.cell? ⟨w.heap.size + 1, 1, none⟩ = some (.int .i64 bd) := B1.cell 1
  go_wp2_with fail
  rw [HP.out, HQ.out]
  rw [← Int.toNat_of_nonneg p1, ← Int.toNat_of_nonneg (show 0 ≤ Q by omega)]
  refine (rcommon_any P.toNat Q.toNat _ (by omega) (by omega)).mono ?_
  rintro e w3 ⟨rfl, ⟨m, rfl⟩⟩
  rw [Int.toNat_of_nonneg p1, Int.toNat_of_nonneg (show 0 ≤ Q by omega)]
  rw [show ((Nat.gcd P.toNat Q.toNat : Nat) : Int) = g from HG.out]
  clear k1 k2 k3 k4 B0 B1 HG HP HQ H1 H2 q1 q2 q3 q4
  have EX := HEX.out
  have EY := HEY.out
  have ex := hex.out
  have ey := hey.out
  have HB := bdrewN HB m
  have B2 := B2.drewN m
  generalize World.drewN _ _ = w3 at *
  have c2 : w3.cell? ⟨w.heap.size + 1 + 1, 0, none⟩ = some (.int .i64 0) := B2.cell 0
  have c3 : w3.cell? ⟨w.heap.size + 1 + 1, 1, none⟩ = some (.int .i64 0) := B2.cell 1
  have f2 : w3.frozen? ⟨w.heap.size + 1 + 1, 0, none⟩ = false := B2.frozen 0
  have f3 : w3.frozen? ⟨w.heap.size + 1 + 1, 1, none⟩ = false := B2.frozen 1
  go_wp2
  refine bodyPost_ret (res_ct rfl _ _ (w.heap.size + 1 + 1) 31 #[.int .i64 0, .int .i64 0] _ rfl ((B2.put 0 _ rfl).put 1 _ rfl) rfl Try.underlying31 (by kernel_rfl)) rfl ?_
  exact ⟨rfl, bset (bset HB (by omega) _ _) (by omega) _ _⟩

set_option maxHeartbeats 1000000 in
theorem rtimes_bad1 (an ad bn bd : Int) (w : World) (h1 : rightB an ad = false) :
    Calls Try.prog 27 #[.agg #[.int .i64 an, .int .i64 ad], .agg #[.int .i64 bn, .int .i64 bd]] w fun e w' => e = .returned (.tuple #[.agg #[.int .i64 0, .int .i64 0], .bool false]) ∧ Below w.heap.size w w' := by
  have H1 := Lib.hid h1
  clear h1
  go_enter Try.func27, Try.ntmps27
  go_wp2_with fail
  refine (rright_any _ _ _).mono ?_
  rintro e w1 ⟨rfl, hb1⟩
  rw [H1.out]
  have B2 : Blk w1 (w.heap.size + 1 + 1) #[.int .i64 0, .int .i64 0] 31 := (Blk.new ((w.alloc (.cells #[.int .i64 an, .int .i64 ad] 31)).alloc (.cells #[.int .i64 bn, .int .i64 bd] 31)) #[.int .i64 0, .int .i64 0] 31 (by simp)).below hb1
  have HB : Below w.heap.size w w1 := bthen' (balloc (balloc (balloc (Below.refl _ _) _) _) _) hb1
  clear hb1
  have c2 : w1.cell? ⟨w.heap.size + 1 + 1, 0, none⟩ = some (.int .i64 0) := B2.cell 0
  have c3 : w1.cell? ⟨w.heap.size + 1 + 1, 1, none⟩ = some (.int .i64 0) := B2.cell 1
  have f2 : w1.frozen? ⟨w.heap.size + 1 + 1, 0, none⟩ = false := B2.frozen 0
  have f3 : w1.frozen? ⟨w.heap.size + 1 + 1, 1, none⟩ = false := B2.frozen 1
  go_wp2
  refine bodyPost_ret (res_ct rfl _ _ (w.heap.size + 1 + 1) 31 #[.int .i64 0, .int .i64 0] _ rfl ((B2.put 0 _ rfl).put 1 _ rfl) rfl Try.underlying31 (by kernel_rfl)) rfl ?_
  exact ⟨rfl, bset (bset HB (by omega) _ _) (by omega) _ _⟩

set_option maxHeartbeats 1000000 in
theorem rtimes_bad2 (an ad bn bd : Int) (w : World) (h1 : rightB an ad = true) (h2 : rightB bn bd = false) :
    Calls Try.prog 27 #[.agg #[.int .i64 an, .int .i64 ad], .agg #[.int .i64 bn, .int .i64 bd]] w fun e w' => e = .returned (.tuple #[.agg #[.int .i64 0, .int .i64 0], .bool false]) ∧ Below w.heap.size w w' := by
  have H1 := Lib.hid h1
  have H2 := Lib.hid h2
  clear h1 h2
  go_enter Try.func27, Try.ntmps27
  go_wp2_with fail
  refine (rright_any _ _ _).mono ?_
  rintro e w1 ⟨rfl, hb1⟩
  rw [H1.out]
  have B1 : Blk w1 (w.heap.size + 1) #[.int .i64 bn, .int .i64 bd] 31 := ((Blk.new (w.alloc (.cells #[.int .i64 an, .int .i64 ad] 31)) #[.int .i64 bn, .int .i64 bd] 31 (by simp)).alloc (.cells #[.int .i64 0, .int .i64 0] 31)).below hb1
  have B2 : Blk w1 (w.heap.size + 1 + 1) #[.int .i64 0, .int .i64 0] 31 := (Blk.new ((w.alloc (.cells #[.int .i64 an, .int .i64 ad] 31)).alloc (.cells #[.int .i64 bn, .int .i64 bd] 31)) #[.int .i64 0, .int .i64 0] 31 (by simp)).below hb1
  have HB : Below w.heap.size w w1 := bthen' (balloc (balloc (balloc (Below.refl _ _) _) _) _) hb1
  clear hb1
  have k3 : w1.cell? ⟨w.heap.size + 1, 0, none⟩ = some (.int .i64 bn) := B1.cell 0
  have k4 : w1.cell? ⟨w.heap.size + 1, 1, none⟩ = some (.int .i64 bd) := B1.cell 1
  go_wp2_with fail
  refine (rright_any _ _ _).mono ?_
  rintro e w2 ⟨rfl, hb2⟩
  rw [H2.out]
  clear k3 k4
  have B2 := B2.below hb2
  have HB : Below w.heap.size w w2 := bthen' HB hb2
  clear hb2
  have c2 : w2.cell? ⟨w.heap.size + 1 + 1, 0, none⟩ = some (.int .i64 0) := B2.cell 0
  have c3 : w2.cell? ⟨w.heap.size + 1 + 1, 1, none⟩ = some (.int .i64 0) := B2.cell 1
  have f2 : w2.frozen? ⟨w.heap.size + 1 + 1, 0, none⟩ = false := B2.frozen 0
  have f3 : w2.frozen? ⟨w.heap.size + 1 + 1, 1, none⟩ = false := B2.frozen 1
  go_wp2
  refine bodyPost_ret (res_ct rfl _ _ (w.heap.size + 1 + 1) 31 #[.int .i64 0, .int .i64 0] _ rfl ((B2.put 0 _ rfl).put 1 _ rfl) rfl Try.underlying31 (by kernel_rfl)) rfl ?_
  exact ⟨rfl, bset (bset HB (by omega) _ _) (by omega) _ _⟩

theorem rtimes_any (an ad bn bd : Int) (w : World) :
    Calls Try.prog 27 #[.agg #[.int .i64 an, .int .i64 ad], .agg #[.int .i64 bn, .int .i64 bd]] w fun e w' => e = .returned (.tuple #[.agg #[.int .i64 (timesN an ad bn bd), .int .i64 (timesD an ad bn bd)], .bool (timesOk an ad bn bd)]) ∧ Below w.heap.size w w' := by
  by_cases h1 : rightB an ad = true
  · by_cases h2 : rightB bn bd = true
    · by_cases h3 : (ad * bd) / gcdI (an * bn) (ad * bd) ≤ 262144
      · have hok : timesOk an ad bn bd = true := by simp [timesOk, h1, h2, h3]
        rw [show timesN an ad bn bd = (an * bn) / gcdI (an * bn) (ad * bd) by simp [timesN, hok], show timesD an ad bn bd = (ad * bd) / gcdI (an * bn) (ad * bd) by simp [timesD, hok], hok]
        exact rtimes_yes _ _ _ _ _ _ _ _ _ w h1 h2 rfl rfl rfl rfl rfl h3
      · have hok : timesOk an ad bn bd = false := by simp [timesOk, h1, h2]; omega
        rw [show timesN an ad bn bd = 0 by simp [timesN, hok], show timesD an ad bn bd = 0 by simp [timesD, hok], hok]
        exact rtimes_no _ _ _ _ _ _ _ _ _ w h1 h2 rfl rfl rfl rfl rfl (by omega)
    · have h2 : rightB bn bd = false := by simpa using h2
      have hok : timesOk an ad bn bd = false := by simp [timesOk, h1, h2]
      rw [show timesN an ad bn bd = 0 by simp [timesN, hok], show timesD an ad bn bd = 0 by simp [timesD, hok], hok]
      exact rtimes_bad2 _ _ _ _ w h1 h2
  · have h1 : rightB an ad = false := by simpa using h1
    have hok : timesOk an ad bn bd = false := by simp [timesOk, h1]
    rw [show timesN an ad bn bd = 0 by simp [timesN, hok], show timesD an ad bn bd = 0 by simp [timesD, hok], hok]
    exact rtimes_bad1 _ _ _ _ w h1


theorem rnd_add (n d q : Int) (hd : 1 ≤ d) : rnd (q * d + n) d = q + rnd n d := by
  have e1 : (q * d + n) % d = n % d := by rw [Int.mul_add_emod_self_right]
  have e2 : (q * d + n) / d = q + n / d := by rw [Int.add_comm, Int.add_mul_ediv_right _ _ (by omega), Int.add_comm]
  unfold rnd
  rw [e1, e2]
  split <;> omega

theorem line_total {x fx fy tx ty : Int} (hx : -1048576 ≤ x ∧ x ≤ 1048576) (h1 : -1048576 ≤ fx ∧ fx ≤ 1048576) (h2 : -1048576 ≤ fy ∧ fy ≤ 1048576) (h3 : -1048576 ≤ tx ∧ tx ≤ 1048576) (h4 : -1048576 ≤ ty ∧ ty ≤ 1048576) :
    -2199023255552 ≤ fy * (tx - fx) ∧ fy * (tx - fx) ≤ 2199023255552 ∧ -4398046511104 ≤ (x - fx) * (ty - fy) ∧ (x - fx) * (ty - fy) ≤ 4398046511104 := by
  have a := mul_bounds' (a := fy) (b := tx - fx) (A := 1048576) (B := 2097152) ⟨by omega, by omega⟩ ⟨by omega, by omega⟩
  have b := mul_bounds' (a := x - fx) (b := ty - fy) (A := 2097152) (B := 2097152) ⟨by omega, by omega⟩ ⟨by omega, by omega⟩
  omega

set_option maxHeartbeats 2000000 in
theorem rline_any (x fx fy tx ty : Int) (w : World) :
    Calls Try.prog 29 #[.int .i64 x, .agg #[.int .i64 fx, .int .i64 fy], .agg #[.int .i64 tx, .int .i64 ty]] w fun e w' => e = .returned (.tuple #[.int .i64 (lineQ x fx fy tx ty), .bool (lineOk x fx fy tx ty)]) ∧ Below w.heap.size w w' := by
  by_cases hx : sm x = true
  rotate_left
  · have hx : sm x = false := by simpa using hx
    have hok : lineOk x fx fy tx ty = false := by simp [lineOk, hx]
    rw [show lineQ x fx fy tx ty = 0 by simp [lineQ, hok], hok]
    have Hx := Lib.hid hx
    clear hok hx
    go_enter Try.func29, Try.ntmps29
    go_wp2_with fail
    refine (rsmall_any _ _).mono ?_
    rintro e w' ⟨rfl, rfl⟩
    rw [Hx.out]
    go_wp2
    go_ret2
    exact ⟨rfl, balloc (balloc (Below.refl _ _) _) _⟩
  by_cases hfx : sm fx = true
  rotate_left
  · have hfx : sm fx = false := by simpa using hfx
    have hok : lineOk x fx fy tx ty = false := by simp [lineOk, hfx]
    rw [show lineQ x fx fy tx ty = 0 by simp [lineQ, hok], hok]
    have Hx := Lib.hid hx
    have Hfx := Lib.hid hfx
    clear hok hx hfx
    go_enter Try.func29, Try.ntmps29
    go_wp2_with fail
    refine (rsmall_any _ _).mono ?_
    rintro e w' ⟨rfl, rfl⟩
    rw [Hx.out]
    go_wp2_with fail
    refine (rsmall_any _ _).mono ?_
    rintro e w' ⟨rfl, rfl⟩
    rw [Hfx.out]
    go_wp2
    go_ret2
    exact ⟨rfl, balloc (balloc (Below.refl _ _) _) _⟩
  by_cases hfy : sm fy = true
  rotate_left
  · have hfy : sm fy = false := by simpa using hfy
    have hok : lineOk x fx fy tx ty = false := by simp [lineOk, hfy]
    rw [show lineQ x fx fy tx ty = 0 by simp [lineQ, hok], hok]
    have Hx := Lib.hid hx
    have Hfx := Lib.hid hfx
    have Hfy := Lib.hid hfy
    clear hok hx hfx hfy
    go_enter Try.func29, Try.ntmps29
    go_wp2_with fail
    refine (rsmall_any _ _).mono ?_
    rintro e w' ⟨rfl, rfl⟩
    rw [Hx.out]
    go_wp2_with fail
    refine (rsmall_any _ _).mono ?_
    rintro e w' ⟨rfl, rfl⟩
    rw [Hfx.out]
    go_wp2_with fail
    refine (rsmall_any _ _).mono ?_
    rintro e w' ⟨rfl, rfl⟩
    rw [Hfy.out]
    go_wp2
    go_ret2
    exact ⟨rfl, balloc (balloc (Below.refl _ _) _) _⟩
  by_cases htx : sm tx = true
  rotate_left
  · have htx : sm tx = false := by simpa using htx
    have hok : lineOk x fx fy tx ty = false := by simp [lineOk, htx]
    rw [show lineQ x fx fy tx ty = 0 by simp [lineQ, hok], hok]
    have Hx := Lib.hid hx
    have Hfx := Lib.hid hfx
    have Hfy := Lib.hid hfy
    have Htx := Lib.hid htx
    clear hok hx hfx hfy htx
    go_enter Try.func29, Try.ntmps29
    go_wp2_with fail
    refine (rsmall_any _ _).mono ?_
    rintro e w' ⟨rfl, rfl⟩
    rw [Hx.out]
    go_wp2_with fail
    refine (rsmall_any _ _).mono ?_
    rintro e w' ⟨rfl, rfl⟩
    rw [Hfx.out]
    go_wp2_with fail
    refine (rsmall_any _ _).mono ?_
    rintro e w' ⟨rfl, rfl⟩
    rw [Hfy.out]
    go_wp2_with fail
    refine (rsmall_any _ _).mono ?_
    rintro e w' ⟨rfl, rfl⟩
    rw [Htx.out]
    go_wp2
    go_ret2
    exact ⟨rfl, balloc (balloc (Below.refl _ _) _) _⟩
  by_cases hty : sm ty = true
  rotate_left
  · have hty : sm ty = false := by simpa using hty
    have hok : lineOk x fx fy tx ty = false := by simp [lineOk, hty]
    rw [show lineQ x fx fy tx ty = 0 by simp [lineQ, hok], hok]
    have Hx := Lib.hid hx
    have Hfx := Lib.hid hfx
    have Hfy := Lib.hid hfy
    have Htx := Lib.hid htx
    have Hty := Lib.hid hty
    clear hok hx hfx hfy htx hty
    go_enter Try.func29, Try.ntmps29
    go_wp2_with fail
    refine (rsmall_any _ _).mono ?_
    rintro e w' ⟨rfl, rfl⟩
    rw [Hx.out]
    go_wp2_with fail
    refine (rsmall_any _ _).mono ?_
    rintro e w' ⟨rfl, rfl⟩
    rw [Hfx.out]
    go_wp2_with fail
    refine (rsmall_any _ _).mono ?_
    rintro e w' ⟨rfl, rfl⟩
    rw [Hfy.out]
    go_wp2_with fail
    refine (rsmall_any _ _).mono ?_
    rintro e w' ⟨rfl, rfl⟩
    rw [Htx.out]
    go_wp2_with fail
    refine (rsmall_any _ _).mono ?_
    rintro e w' ⟨rfl, rfl⟩
    rw [Hty.out]
    go_wp2
    go_ret2
    exact ⟨rfl, balloc (balloc (Below.refl _ _) _) _⟩
  have hs : [x, fx, fy, tx, ty].all sm = true := by simp [hx, hfx, hfy, htx, hty]
  have bx := sm_true.1 hx
  have Hx := Lib.hid hx
  have bfx := sm_true.1 hfx
  have Hfx := Lib.hid hfx
  have bfy := sm_true.1 hfy
  have Hfy := Lib.hid hfy
  have btx := sm_true.1 htx
  have Htx := Lib.hid htx
  have bty := sm_true.1 hty
  have Hty := Lib.hid hty
  obtain ⟨l1, l2, l3, l4⟩ := line_total bx bfx bfy btx bty
  obtain ⟨x1, x2⟩ := bx
  obtain ⟨f1, f2⟩ := bfx
  obtain ⟨g1, g2⟩ := bfy
  obtain ⟨t1, t2⟩ := btx
  obtain ⟨u1, u2⟩ := bty
  clear hx hfx hfy htx hty
  by_cases d1 : fx < tx
  · by_cases d2 : fx ≤ x
    · by_cases d3 : x ≤ tx
      · have hok : lineOk x fx fy tx ty = true := by unfold lineOk; rw [hs]; simp; omega
        have hq : lineQ x fx fy tx ty = fy + rnd ((x - fx) * (ty - fy)) (tx - fx) := by simp [lineQ, hok]
        rw [hq, hok, ← rnd_add _ _ _ (show 1 ≤ tx - fx by omega)]
        clear hok hq hs
        go_enter Try.func29, Try.ntmps29
        go_wp2_with fail
        refine (rsmall_any _ _).mono ?_
        rintro e w' ⟨rfl, rfl⟩
        rw [Hx.out]
        go_wp2_with fail
        refine (rsmall_any _ _).mono ?_
        rintro e w' ⟨rfl, rfl⟩
        rw [Hfx.out]
        go_wp2_with fail
        refine (rsmall_any _ _).mono ?_
        rintro e w' ⟨rfl, rfl⟩
        rw [Hfy.out]
        go_wp2_with fail
        refine (rsmall_any _ _).mono ?_
        rintro e w' ⟨rfl, rfl⟩
        rw [Htx.out]
        go_wp2_with fail
        refine (rsmall_any _ _).mono ?_
        rintro e w' ⟨rfl, rfl⟩
        rw [Hty.out]
        go_wp2_with fail
        refine (rround_any _ _ _ (by omega) (by omega) (by omega) (by omega)).mono ?_
        rintro e w' ⟨rfl, rfl⟩
        go_wp2
        go_ret2
        exact ⟨rfl, balloc (balloc (Below.refl _ _) _) _⟩
      · have hok : lineOk x fx fy tx ty = false := by unfold lineOk; rw [hs]; simp; omega
        rw [show lineQ x fx fy tx ty = 0 by simp [lineQ, hok], hok]
        clear hok hs
        go_enter Try.func29, Try.ntmps29
        go_wp2_with fail
        refine (rsmall_any _ _).mono ?_
        rintro e w' ⟨rfl, rfl⟩
        rw [Hx.out]
        go_wp2_with fail
        refine (rsmall_any _ _).mono ?_
        rintro e w' ⟨rfl, rfl⟩
        rw [Hfx.out]
        go_wp2_with fail
        refine (rsmall_any _ _).mono ?_
        rintro e w' ⟨rfl, rfl⟩
        rw [Hfy.out]
        go_wp2_with fail
        refine (rsmall_any _ _).mono ?_
        rintro e w' ⟨rfl, rfl⟩
        rw [Htx.out]
        go_wp2_with fail
        refine (rsmall_any _ _).mono ?_
        rintro e w' ⟨rfl, rfl⟩
        rw [Hty.out]
        go_wp2
        go_ret2
        exact ⟨rfl, balloc (balloc (Below.refl _ _) _) _⟩
    · have hok : lineOk x fx fy tx ty = false := by unfold lineOk; rw [hs]; simp; omega
      rw [show lineQ x fx fy tx ty = 0 by simp [lineQ, hok], hok]
      clear hok hs
      go_enter Try.func29, Try.ntmps29
      go_wp2_with fail
      refine (rsmall_any _ _).mono ?_
      rintro e w' ⟨rfl, rfl⟩
      rw [Hx.out]
      go_wp2_with fail
      refine (rsmall_any _ _).mono ?_
      rintro e w' ⟨rfl, rfl⟩
      rw [Hfx.out]
      go_wp2_with fail
      refine (rsmall_any _ _).mono ?_
      rintro e w' ⟨rfl, rfl⟩
      rw [Hfy.out]
      go_wp2_with fail
      refine (rsmall_any _ _).mono ?_
      rintro e w' ⟨rfl, rfl⟩
      rw [Htx.out]
      go_wp2_with fail
      refine (rsmall_any _ _).mono ?_
      rintro e w' ⟨rfl, rfl⟩
      rw [Hty.out]
      go_wp2
      go_ret2
      exact ⟨rfl, balloc (balloc (Below.refl _ _) _) _⟩
  · have hok : lineOk x fx fy tx ty = false := by unfold lineOk; rw [hs]; simp; omega
    rw [show lineQ x fx fy tx ty = 0 by simp [lineQ, hok], hok]
    clear hok hs
    go_enter Try.func29, Try.ntmps29
    go_wp2_with fail
    refine (rsmall_any _ _).mono ?_
    rintro e w' ⟨rfl, rfl⟩
    rw [Hx.out]
    go_wp2_with fail
    refine (rsmall_any _ _).mono ?_
    rintro e w' ⟨rfl, rfl⟩
    rw [Hfx.out]
    go_wp2_with fail
    refine (rsmall_any _ _).mono ?_
    rintro e w' ⟨rfl, rfl⟩
    rw [Hfy.out]
    go_wp2_with fail
    refine (rsmall_any _ _).mono ?_
    rintro e w' ⟨rfl, rfl⟩
    rw [Htx.out]
    go_wp2_with fail
    refine (rsmall_any _ _).mono ?_
    rintro e w' ⟨rfl, rfl⟩
    rw [Hty.out]
    go_wp2
    go_ret2
    exact ⟨rfl, balloc (balloc (Below.refl _ _) _) _⟩

end Go.Proofs.Ytkdcbinaglidoaa
