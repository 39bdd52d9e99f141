/- Contract of Times of package fix. -/
import Derived.Test.YtkdcbinaglidoaaFixD
set_option linter.unusedVariables false
set_option linter.unusedSimpArgs false
namespace Go.Proofs.Ytkdcbinaglidoaa
open Go.RowKit

set_option maxHeartbeats 400000 in
theorem common64_any (a b : Nat) (w : World) (ha : a ≤ 9223372036854775807) (hb : b ≤ 9223372036854775807) :
    Calls Try.prog 40 #[.int .i64 a, .int .i64 b] w fun e w' => e = .returned (.int .i64 (Nat.gcd a b)) ∧ ∃ n, w' = w.drewN n := by
  go_enter Try.func40, Try.ntmps40
  go_wp2
  go_loopw [0, 1] (fun x y wr => ∃ p q : Nat, p ≤ 9223372036854775807 ∧ q ≤ 9223372036854775807 ∧ x = .int .i64 p ∧ y = .int .i64 q ∧ Hid (Nat.gcd p q = Nat.gcd a b) ∧ Hid (∃ n, wr = w.drewN n)) (fun x y _ => (intOf y).toNat)
  case atStart => exact ⟨a, b, ha, hb, rfl, rfl, rfl, ⟨0, rfl⟩⟩
  case round =>
    obtain ⟨p, q, hp, hq, rfl, rfl, hg, hw⟩ := hrel
    by_cases h0 : 0 < q
    · have hg' := gcd_step p q h0
      rw [hg.out] at hg'
      have HG := Lib.hid hg'
      clear hg' hg
      have b0 : ((q : Int) == 0) = false := by simp; omega
      have m := Nat.mod_lt p h0
      have e1 : ((p : Int)).tmod (q : Int) = ((p % q : Nat) : Int) := rfl
      go_wp2
      go_quiet (fail)
      go_wp2
      go_roundw
      case rel => exact ⟨q, p % q, hq, by omega, rfl, rfl, HG.out, by obtain ⟨n, rfl⟩ := hw.out; exact ⟨_, World.drewN_drewN _ _ _⟩⟩
      case measure => simp [intOf]; omega
    · have hq0 : q = 0 := by omega
      subst hq0
      have hg' := hg.out
      rw [Nat.gcd_zero_right] at hg'
      have HG := Lib.hid hg'
      clear hg' hg
      go_wp2
      go_ret
      exact ⟨ret_int (by rw [HG.out]), hw.out⟩

/-- Times -/
def gcdI (a b : Int) : Int := ((Nat.gcd a.toNat b.toNat : Nat) : Int)
def timesOk (an ad bn bd : Int) : Bool := rightB an ad && rightB bn bd && decide ((ad * bd) / gcdI (an * bn) (ad * bd) ≤ 262144)
def timesN (an ad bn bd : Int) : Int := if timesOk an ad bn bd = true then (an * bn) / gcdI (an * bn) (ad * bd) else 0
def timesD (an ad bn bd : Int) : Int := if timesOk an ad bn bd = true then (ad * bd) / gcdI (an * bn) (ad * bd) else 0

theorem right_prod {an ad bn bd : Int} (h1 : rightB an ad = true) (h2 : rightB bn bd = true) : 0 ≤ an * bn ∧ an * bn ≤ 68719476736 ∧ 1 ≤ ad * bd ∧ ad * bd ≤ 68719476736 := by
  obtain ⟨a1, a2, a3, a4, _⟩ := rightB_true.1 h1
  obtain ⟨b1, b2, b3, b4, _⟩ := rightB_true.1 h2
  have x1 : 0 ≤ an * bn := Int.mul_nonneg a3 b3
  have x2 : an * bn ≤ 262144 * 262144 := Int.mul_le_mul (by omega) (by omega) b3 (by omega)
  have x3 : 1 * 1 ≤ ad * bd := Int.mul_le_mul a1 b1 (by omega) (by omega)
  have x4 : ad * bd ≤ 262144 * 262144 := Int.mul_le_mul (by omega) (by omega) (by omega) (by omega)
  omega

theorem gcd_facts {N D : Int} (hN : 0 ≤ N) (hD : 1 ≤ D) : 1 ≤ gcdI N D ∧ gcdI N D ≤ D ∧ 0 ≤ N / gcdI N D ∧ N / gcdI N D ≤ N ∧ 0 ≤ D / gcdI N D ∧ D / gcdI N D ≤ D := by
  have h1 : 0 < Nat.gcd N.toNat D.toNat := Nat.gcd_pos_of_pos_right _ (by omega)
  have h2 : Nat.gcd N.toNat D.toNat ≤ D.toNat := Nat.le_of_dvd (by omega) (Nat.gcd_dvd_right _ _)
  have e : gcdI N D = ((Nat.gcd N.toNat D.toNat : Nat) : Int) := rfl
  have g1 : 1 ≤ gcdI N D := by omega
  generalize gcdI N D = g at *
  exact ⟨by omega, by omega, Int.ediv_nonneg hN (by omega), Int.ediv_le_self _ hN, Int.ediv_nonneg (by omega) (by omega), Int.ediv_le_self _ (by omega)⟩

set_option maxHeartbeats 2000000 in
theorem times_yes (an ad bn bd P Q g x y : Int) (w : World) (h1 : rightB an ad = true) (h2 : rightB bn bd = true) (eP : an * bn = P) (eQ : ad * bd = Q) (eg : gcdI P Q = g) (ex : P / g = x) (ey : Q / g = y) (h3 : y ≤ 262144) :
    Calls Try.prog 26 #[.agg #[.int .i64 an, .int .i64 ad], .agg #[.int .i64 bn, .int .i64 bd]] w fun e w' => e = .returned (.tuple #[.agg #[.int .i64 x, .int .i64 y], .bool true]) ∧ Below w.heap.size w w' := by
  obtain ⟨p1, p2, p3, p4⟩ := right_prod h1 h2
  rw [eP] at p1 p2
  rw [eQ] at p3 p4
  obtain ⟨g1, g2, g3, g4, g5, g6⟩ := gcd_facts p1 p3
  rw [eg] at g1 g2 g3 g4 g5 g6
  have b0 : (g == 0) = false := by simp; omega
  rw [ex] at g3 g4
  rw [ey] at g5 g6
  have EX : P.tdiv g = x := by rw [Int.tdiv_eq_ediv_of_nonneg p1]; exact ex
  have EY : Q.tdiv g = y := by rw [Int.tdiv_eq_ediv_of_nonneg (by omega)]; exact ey
  have q1 : -9223372036854775808 ≤ an * bn := by omega
  have q2 : an * bn ≤ 9223372036854775807 := by omega
  have q3 : -9223372036854775808 ≤ ad * bd := by omega
  have q4 : ad * bd ≤ 9223372036854775807 := by omega
  have H1 := Lib.hid h1
  have H2 := Lib.hid h2
  have HP := Lib.hid eP
  have HQ := Lib.hid eQ
  have HG := Lib.hid eg
  have HEX := Lib.hid EX
  have HEY := Lib.hid EY
  have hex := Lib.hid ex
  have hey := Lib.hid ey
  clear h1 h2 eP eQ eg EX EY ex ey
  go_enter Try.func26, Try.ntmps26
  go_wp2_with fail
  refine (right_any _ _ _).mono ?_
  rintro e w1 ⟨rfl, hb1⟩
  rw [H1.out]
  obtain ⟨hc1, hf1⟩ := bcell hb1
  go_wp2_with fail
  refine (right_any _ _ _).mono ?_
  rintro e w2 ⟨rfl, hb2⟩
  rw [H2.out]
  obtain ⟨hc2, hf2⟩ := bcell hb2
  have hz1 := hb1.size
  have hz2 := hb2.size
  simp at hz1
  have B0 : Blk w2 w.heap.size #[.int .i64 an, .int .i64 ad] 31 := (((((Blk.new w #[.int .i64 an, .int .i64 ad] 31 rfl).alloc (.cells #[.int .i64 bn, .int .i64 bd] 31)).alloc (.cells #[.int .i64 0, .int .i64 0] 31)).below hb1).below hb2)
  have B1 : Blk w2 (w.heap.size + 1) #[.int .i64 bn, .int .i64 bd] 31 := (((Blk.new (w.alloc (.cells #[.int .i64 an, .int .i64 ad] 31)) #[.int .i64 bn, .int .i64 bd] 31 (by simp)).alloc (.cells #[.int .i64 0, .int .i64 0] 31)).below hb1).below hb2
  have B2 : Blk w2 (w.heap.size + 1 + 1) #[.int .i64 0, .int .i64 0] 31 := ((Blk.new ((w.alloc (.cells #[.int .i64 an, .int .i64 ad] 31)).alloc (.cells #[.int .i64 bn, .int .i64 bd] 31)) #[.int .i64 0, .int .i64 0] 31 (by simp)).below hb1).below hb2
  have HB : Below w.heap.size w w2 := bthen' (bthen' (balloc (balloc (balloc (Below.refl _ _) _) _) _) hb1) hb2
  clear hb1 hb2 hc1 hc2 hf1 hf2
  have k1 : w2.cell? ⟨w.heap.size, 0, none⟩ = some (.int .i64 an) := B0.cell 0
  have k2 : w2.cell? ⟨w.heap.size, 1, none⟩ = some (.int .i64 ad) := B0.cell 1
  have k3 : w2.cell? ⟨w.heap.size + 1, 0, none⟩ = some (.int .i64 bn) := B1.cell 0
  have k4 : w2.cell? ⟨w.heap.size + 1, 1, none⟩ = some (.int .i64 bd) := B1.cell 1
  go_wp2_with fail
  go_quiet (fail)
  go_wp2_with fail
  rw [HP.out, HQ.out]
  rw [← Int.toNat_of_nonneg p1, ← Int.toNat_of_nonneg (show 0 ≤ Q by omega)]
  refine (common64_any P.toNat Q.toNat _ (by omega) (by omega)).mono ?_
  rintro e w3 ⟨rfl, ⟨m, rfl⟩⟩
  rw [Int.toNat_of_nonneg p1, Int.toNat_of_nonneg (show 0 ≤ Q by omega)]
  rw [show ((Nat.gcd P.toNat Q.toNat : Nat) : Int) = g from HG.out]
  clear k1 k2 k3 k4 B0 B1 HG HP HQ H1 H2 q1 q2 q3 q4
  have EX := HEX.out
  have EY := HEY.out
  have ex := hex.out
  have ey := hey.out
  have z0 : ∀ k, ((w2.drewN k).alloc (Obj.cells #[.int .i64 0, .int .i64 0] 31)).cell? ⟨w2.heap.size, 0, none⟩ = some (.int .i64 0) := fun k => World.cell?_alloc_new ..
  have y0 : ∀ k, ((w2.drewN k).alloc (Obj.cells #[.int .i64 0, .int .i64 0] 31)).frozen? ⟨w2.heap.size, 0, none⟩ = false := fun k => World.frozen?_alloc_new ..
  have z1 : ∀ k, ((w2.drewN k).alloc (Obj.cells #[.int .i64 0, .int .i64 0] 31)).cell? ⟨w2.heap.size, 1, none⟩ = some (.int .i64 0) := fun k => World.cell?_alloc_new ..
  have y1 : ∀ k, ((w2.drewN k).alloc (Obj.cells #[.int .i64 0, .int .i64 0] 31)).frozen? ⟨w2.heap.size, 1, none⟩ = false := fun k => World.frozen?_alloc_new ..
  have G : ∀ k, Blk ((((w2.drewN k).alloc (Obj.cells #[.int .i64 0, .int .i64 0] 31)).setCell ⟨w2.heap.size, 0, none⟩ (.int .i64 x)).setCell ⟨w2.heap.size, 1, none⟩ (.int .i64 y)) w2.heap.size #[.int .i64 x, .int .i64 y] 31 := fun k => ((Blk.new _ _ _ rfl).put 0 _ rfl).put 1 _ rfl
  have C : ∀ k, Blk ((((w2.drewN k).alloc (Obj.cells #[.int .i64 0, .int .i64 0] 31)).setCell ⟨w2.heap.size, 0, none⟩ (.int .i64 x)).setCell ⟨w2.heap.size, 1, none⟩ (.int .i64 y)) (w.heap.size + 1 + 1) #[.int .i64 0, .int .i64 0] 31 := fun k => (((B2.drewN k).alloc _).far (Nat.ne_of_lt B2.lt) _ _).far (Nat.ne_of_lt B2.lt) _ _
  have H5 : ∀ k, Below w.heap.size w ((((w2.drewN k).alloc (Obj.cells #[.int .i64 0, .int .i64 0] 31)).setCell ⟨w2.heap.size, 0, none⟩ (.int .i64 x)).setCell ⟨w2.heap.size, 1, none⟩ (.int .i64 y)) := fun k => bset (bset (balloc (bdrewN HB k) _) HB.size _ _) HB.size _ _
  go_wp2
  go_region
  replace G := G (nq + m + 1)
  replace C := C (nq + m + 1)
  replace H5 := H5 (nq + m + 1)
  clear z0 z1 y0 y1 EX EY ex ey
  generalize World.setCell (World.setCell (World.alloc (w2.drewN (nq + m + 1)) _) _ _) _ _ = W5 at *
  generalize w2.heap.size = g5 at *
  have c0 : W5.cell? ⟨g5, 0, none⟩ = some (.int .i64 x) := G.cell 0
  have c1 : W5.cell? ⟨g5, 1, none⟩ = some (.int .i64 y) := G.cell 1
  have c2 : W5.cell? ⟨w.heap.size + 1 + 1, 0, none⟩ = some (.int .i64 0) := C.cell 0
  have c3 : W5.cell? ⟨w.heap.size + 1 + 1, 1, none⟩ = some (.int .i64 0) := C.cell 1
  have f2 : W5.frozen? ⟨w.heap.size + 1 + 1, 0, none⟩ = false := C.frozen 0
  have f3 : W5.frozen? ⟨w.heap.size + 1 + 1, 1, none⟩ = false := C.frozen 1
  go_wp2
  refine bodyPost_ret (res_ct rfl _ _ (w.heap.size + 1 + 1) 31 #[.int .i64 x, .int .i64 y] _ rfl ((C.put 0 _ rfl).put 1 _ rfl) rfl Try.underlying31 (by kernel_rfl)) rfl ?_
  exact ⟨rfl, bset (bset H5 (by omega) _ _) (by omega) _ _⟩

set_option maxHeartbeats 2000000 in
theorem times_no (an ad bn bd P Q g x y : Int) (w : World) (h1 : rightB an ad = true) (h2 : rightB bn bd = true) (eP : an * bn = P) (eQ : ad * bd = Q) (eg : gcdI P Q = g) (ex : P / g = x) (ey : Q / g = y) (h3 : 262144 < y) :
    Calls Try.prog 26 #[.agg #[.int .i64 an, .int .i64 ad], .agg #[.int .i64 bn, .int .i64 bd]] w fun e w' => e = .returned (.tuple #[.agg #[.int .i64 0, .int .i64 0], .bool false]) ∧ Below w.heap.size w w' := by
  obtain ⟨p1, p2, p3, p4⟩ := right_prod h1 h2
  rw [eP] at p1 p2
  rw [eQ] at p3 p4
  obtain ⟨g1, g2, g3, g4, g5, g6⟩ := gcd_facts p1 p3
  rw [eg] at g1 g2 g3 g4 g5 g6
  have b0 : (g == 0) = false := by simp; omega
  rw [ex] at g3 g4
  rw [ey] at g5 g6
  have EX : P.tdiv g = x := by rw [Int.tdiv_eq_ediv_of_nonneg p1]; exact ex
  have EY : Q.tdiv g = y := by rw [Int.tdiv_eq_ediv_of_nonneg (by omega)]; exact ey
  have q1 : -9223372036854775808 ≤ an * bn := by omega
  have q2 : an * bn ≤ 9223372036854775807 := by omega
  have q3 : -9223372036854775808 ≤ ad * bd := by omega
  have q4 : ad * bd ≤ 9223372036854775807 := by omega
  have H1 := Lib.hid h1
  have H2 := Lib.hid h2
  have HP := Lib.hid eP
  have HQ := Lib.hid eQ
  have HG := Lib.hid eg
  have HEX := Lib.hid EX
  have HEY := Lib.hid EY
  have hex := Lib.hid ex
  have hey := Lib.hid ey
  clear h1 h2 eP eQ eg EX EY ex ey
  go_enter Try.func26, Try.ntmps26
  go_wp2_with fail
  refine (right_any _ _ _).mono ?_
  rintro e w1 ⟨rfl, hb1⟩
  rw [H1.out]
  obtain ⟨hc1, hf1⟩ := bcell hb1
  go_wp2_with fail
  refine (right_any _ _ _).mono ?_
  rintro e w2 ⟨rfl, hb2⟩
  rw [H2.out]
  obtain ⟨hc2, hf2⟩ := bcell hb2
  have hz1 := hb1.size
  have hz2 := hb2.size
  simp at hz1
  have B0 : Blk w2 w.heap.size #[.int .i64 an, .int .i64 ad] 31 := (((((Blk.new w #[.int .i64 an, .int .i64 ad] 31 rfl).alloc (.cells #[.int .i64 bn, .int .i64 bd] 31)).alloc (.cells #[.int .i64 0, .int .i64 0] 31)).below hb1).below hb2)
  have B1 : Blk w2 (w.heap.size + 1) #[.int .i64 bn, .int .i64 bd] 31 := (((Blk.new (w.alloc (.cells #[.int .i64 an, .int .i64 ad] 31)) #[.int .i64 bn, .int .i64 bd] 31 (by simp)).alloc (.cells #[.int .i64 0, .int .i64 0] 31)).below hb1).below hb2
  have B2 : Blk w2 (w.heap.size + 1 + 1) #[.int .i64 0, .int .i64 0] 31 := ((Blk.new ((w.alloc (.cells #[.int .i64 an, .int .i64 ad] 31)).alloc (.cells #[.int .i64 bn, .int .i64 bd] 31)) #[.int .i64 0, .int .i64 0] 31 (by simp)).below hb1).below hb2
  have HB : Below w.heap.size w w2 := bthen' (bthen' (balloc (balloc (balloc (Below.refl _ _) _) _) _) hb1) hb2
  clear hb1 hb2 hc1 hc2 hf1 hf2
  have k1 : w2.cell? ⟨w.heap.size, 0, none⟩ = some (.int .i64 an) := B0.cell 0
  have k2 : w2.cell? ⟨w.heap.size, 1, none⟩ = some (.int .i64 ad) := B0.cell 1
  have k3 : w2.cell? ⟨w.heap.size + 1, 0, none⟩ = some (.int .i64 bn) := B1.cell 0
  have k4 : w2.cell? ⟨w.heap.size + 1, 1, none⟩ = some (.int .i64 bd) := B1.cell 1
  go_wp2_with fail
  go_quiet (fail)
  go_wp2_with fail
  rw [HP.out, HQ.out]
  rw [← Int.toNat_of_nonneg p1, ← Int.toNat_of_nonneg (show 0 ≤ Q by omega)]
  refine (common64_any P.toNat Q.toNat _ (by omega) (by omega)).mono ?_
  rintro e w3 ⟨rfl, ⟨m, rfl⟩⟩
  rw [Int.toNat_of_nonneg p1, Int.toNat_of_nonneg (show 0 ≤ Q by omega)]
  rw [show ((Nat.gcd P.toNat Q.toNat : Nat) : Int) = g from HG.out]
  clear k1 k2 k3 k4 B0 B1 HG HP HQ H1 H2 q1 q2 q3 q4
  have EX := HEX.out
  have EY := HEY.out
  have ex := hex.out
  have ey := hey.out
  have z0 : ∀ k, ((w2.drewN k).alloc (Obj.cells #[.int .i64 0, .int .i64 0] 31)).cell? ⟨w2.heap.size, 0, none⟩ = some (.int .i64 0) := fun k => World.cell?_alloc_new ..
  have y0 : ∀ k, ((w2.drewN k).alloc (Obj.cells #[.int .i64 0, .int .i64 0] 31)).frozen? ⟨w2.heap.size, 0, none⟩ = false := fun k => World.frozen?_alloc_new ..
  have z1 : ∀ k, ((w2.drewN k).alloc (Obj.cells #[.int .i64 0, .int .i64 0] 31)).cell? ⟨w2.heap.size, 1, none⟩ = some (.int .i64 0) := fun k => World.cell?_alloc_new ..
  have y1 : ∀ k, ((w2.drewN k).alloc (Obj.cells #[.int .i64 0, .int .i64 0] 31)).frozen? ⟨w2.heap.size, 1, none⟩ = false := fun k => World.frozen?_alloc_new ..
  have G : ∀ k, Blk ((((w2.drewN k).alloc (Obj.cells #[.int .i64 0, .int .i64 0] 31)).setCell ⟨w2.heap.size, 0, none⟩ (.int .i64 x)).setCell ⟨w2.heap.size, 1, none⟩ (.int .i64 y)) w2.heap.size #[.int .i64 x, .int .i64 y] 31 := fun k => ((Blk.new _ _ _ rfl).put 0 _ rfl).put 1 _ rfl
  have C : ∀ k, Blk ((((w2.drewN k).alloc (Obj.cells #[.int .i64 0, .int .i64 0] 31)).setCell ⟨w2.heap.size, 0, none⟩ (.int .i64 x)).setCell ⟨w2.heap.size, 1, none⟩ (.int .i64 y)) (w.heap.size + 1 + 1) #[.int .i64 0, .int .i64 0] 31 := fun k => (((B2.drewN k).alloc _).far (Nat.ne_of_lt B2.lt) _ _).far (Nat.ne_of_lt B2.lt) _ _
  have H5 : ∀ k, Below w.heap.size w ((((w2.drewN k).alloc (Obj.cells #[.int .i64 0, .int .i64 0] 31)).setCell ⟨w2.heap.size, 0, none⟩ (.int .i64 x)).setCell ⟨w2.heap.size, 1, none⟩ (.int .i64 y)) := fun k => bset (bset (balloc (bdrewN HB k) _) HB.size _ _) HB.size _ _
  go_wp2
  go_region
  replace G := G (nq + m + 1)
  replace C := C (nq + m + 1)
  replace H5 := H5 (nq + m + 1)
  clear z0 z1 y0 y1 EX EY ex ey
  generalize World.setCell (World.setCell (World.alloc (w2.drewN (nq + m + 1)) _) _ _) _ _ = W5 at *
  generalize w2.heap.size = g5 at *
  have c0 : W5.cell? ⟨g5, 0, none⟩ = some (.int .i64 x) := G.cell 0
  have c1 : W5.cell? ⟨g5, 1, none⟩ = some (.int .i64 y) := G.cell 1
  have c2 : W5.cell? ⟨w.heap.size + 1 + 1, 0, none⟩ = some (.int .i64 0) := C.cell 0
  have c3 : W5.cell? ⟨w.heap.size + 1 + 1, 1, none⟩ = some (.int .i64 0) := C.cell 1
  have f2 : W5.frozen? ⟨w.heap.size + 1 + 1, 0, none⟩ = false := C.frozen 0
  have f3 : W5.frozen? ⟨w.heap.size + 1 + 1, 1, none⟩ = false := C.frozen 1
  go_wp2
  refine bodyPost_ret (res_ct rfl _ _ (w.heap.size + 1 + 1) 31 #[.int .i64 0, .int .i64 0] _ rfl ((C.put 0 _ rfl).put 1 _ rfl) rfl Try.underlying31 (by kernel_rfl)) rfl ?_
  exact ⟨rfl, bset (bset H5 (by omega) _ _) (by omega) _ _⟩

set_option maxHeartbeats 1000000 in
theorem times_bad1 (an ad bn bd : Int) (w : World) (h1 : rightB an ad = false) :
    Calls Try.prog 26 #[.agg #[.int .i64 an, .int .i64 ad], .agg #[.int .i64 bn, .int .i64 bd]] w fun e w' => e = .returned (.tuple #[.agg #[.int .i64 0, .int .i64 0], .bool false]) ∧ Below w.heap.size w w' := by
  have H1 := Lib.hid h1
  clear h1
  go_enter Try.func26, Try.ntmps26
  go_wp2_with fail
  refine (right_any _ _ _).mono ?_
  rintro e w1 ⟨rfl, hb1⟩
  rw [H1.out]
  have B2 : Blk w1 (w.heap.size + 1 + 1) #[.int .i64 0, .int .i64 0] 31 := (Blk.new ((w.alloc (.cells #[.int .i64 an, .int .i64 ad] 31)).alloc (.cells #[.int .i64 bn, .int .i64 bd] 31)) #[.int .i64 0, .int .i64 0] 31 (by simp)).below hb1
  have HB : Below w.heap.size w w1 := bthen' (balloc (balloc (balloc (Below.refl _ _) _) _) _) hb1
  clear hb1
  have c2 : w1.cell? ⟨w.heap.size + 1 + 1, 0, none⟩ = some (.int .i64 0) := B2.cell 0
  have c3 : w1.cell? ⟨w.heap.size + 1 + 1, 1, none⟩ = some (.int .i64 0) := B2.cell 1
  have f2 : w1.frozen? ⟨w.heap.size + 1 + 1, 0, none⟩ = false := B2.frozen 0
  have f3 : w1.frozen? ⟨w.heap.size + 1 + 1, 1, none⟩ = false := B2.frozen 1
  go_wp2
  refine bodyPost_ret (res_ct rfl _ _ (w.heap.size + 1 + 1) 31 #[.int .i64 0, .int .i64 0] _ rfl ((B2.put 0 _ rfl).put 1 _ rfl) rfl Try.underlying31 (by kernel_rfl)) rfl ?_
  exact ⟨rfl, bset (bset HB (by omega) _ _) (by omega) _ _⟩

set_option maxHeartbeats 1000000 in
theorem times_bad2 (an ad bn bd : Int) (w : World) (h1 : rightB an ad = true) (h2 : rightB bn bd = false) :
    Calls Try.prog 26 #[.agg #[.int .i64 an, .int .i64 ad], .agg #[.int .i64 bn, .int .i64 bd]] w fun e w' => e = .returned (.tuple #[.agg #[.int .i64 0, .int .i64 0], .bool false]) ∧ Below w.heap.size w w' := by
  have H1 := Lib.hid h1
  have H2 := Lib.hid h2
  clear h1 h2
  go_enter Try.func26, Try.ntmps26
  go_wp2_with fail
  refine (right_any _ _ _).mono ?_
  rintro e w1 ⟨rfl, hb1⟩
  rw [H1.out]
  have B1 : Blk w1 (w.heap.size + 1) #[.int .i64 bn, .int .i64 bd] 31 := ((Blk.new (w.alloc (.cells #[.int .i64 an, .int .i64 ad] 31)) #[.int .i64 bn, .int .i64 bd] 31 (by simp)).alloc (.cells #[.int .i64 0, .int .i64 0] 31)).below hb1
  have B2 : Blk w1 (w.heap.size + 1 + 1) #[.int .i64 0, .int .i64 0] 31 := (Blk.new ((w.alloc (.cells #[.int .i64 an, .int .i64 ad] 31)).alloc (.cells #[.int .i64 bn, .int .i64 bd] 31)) #[.int .i64 0, .int .i64 0] 31 (by simp)).below hb1
  have HB : Below w.heap.size w w1 := bthen' (balloc (balloc (balloc (Below.refl _ _) _) _) _) hb1
  clear hb1
  have k3 : w1.cell? ⟨w.heap.size + 1, 0, none⟩ = some (.int .i64 bn) := B1.cell 0
  have k4 : w1.cell? ⟨w.heap.size + 1, 1, none⟩ = some (.int .i64 bd) := B1.cell 1
  go_wp2_with fail
  refine (right_any _ _ _).mono ?_
  rintro e w2 ⟨rfl, hb2⟩
  rw [H2.out]
  clear k3 k4
  have B2 := B2.below hb2
  have HB : Below w.heap.size w w2 := bthen' HB hb2
  clear hb2
  have c2 : w2.cell? ⟨w.heap.size + 1 + 1, 0, none⟩ = some (.int .i64 0) := B2.cell 0
  have c3 : w2.cell? ⟨w.heap.size + 1 + 1, 1, none⟩ = some (.int .i64 0) := B2.cell 1
  have f2 : w2.frozen? ⟨w.heap.size + 1 + 1, 0, none⟩ = false := B2.frozen 0
  have f3 : w2.frozen? ⟨w.heap.size + 1 + 1, 1, none⟩ = false := B2.frozen 1
  go_wp2
  refine bodyPost_ret (res_ct rfl _ _ (w.heap.size + 1 + 1) 31 #[.int .i64 0, .int .i64 0] _ rfl ((B2.put 0 _ rfl).put 1 _ rfl) rfl Try.underlying31 (by kernel_rfl)) rfl ?_
  exact ⟨rfl, bset (bset HB (by omega) _ _) (by omega) _ _⟩

theorem times_any (an ad bn bd : Int) (w : World) :
    Calls Try.prog 26 #[.agg #[.int .i64 an, .int .i64 ad], .agg #[.int .i64 bn, .int .i64 bd]] w fun e w' => e = .returned (.tuple #[.agg #[.int .i64 (timesN an ad bn bd), .int .i64 (timesD an ad bn bd)], .bool (timesOk an ad bn bd)]) ∧ Below w.heap.size w w' := by
  by_cases h1 : rightB an ad = true
  · by_cases h2 : rightB bn bd = true
    · by_cases h3 : (ad * bd) / gcdI (an * bn) (ad * bd) ≤ 262144
      · have hok : timesOk an ad bn bd = true := by simp [timesOk, h1, h2, h3]
        rw [show timesN an ad bn bd = (an * bn) / gcdI (an * bn) (ad * bd) by simp [timesN, hok], show timesD an ad bn bd = (ad * bd) / gcdI (an * bn) (ad * bd) by simp [timesD, hok], hok]
        exact times_yes _ _ _ _ _ _ _ _ _ w h1 h2 rfl rfl rfl rfl rfl h3
      · have hok : timesOk an ad bn bd = false := by simp [timesOk, h1, h2]; omega
        rw [show timesN an ad bn bd = 0 by simp [timesN, hok], show timesD an ad bn bd = 0 by simp [timesD, hok], hok]
        exact times_no _ _ _ _ _ _ _ _ _ w h1 h2 rfl rfl rfl rfl rfl (by omega)
    · have h2 : rightB bn bd = false := by simpa using h2
      have hok : timesOk an ad bn bd = false := by simp [timesOk, h1, h2]
      rw [show timesN an ad bn bd = 0 by simp [timesN, hok], show timesD an ad bn bd = 0 by simp [timesD, hok], hok]
      exact times_bad2 _ _ _ _ w h1 h2
  · have h1 : rightB an ad = false := by simpa using h1
    have hok : timesOk an ad bn bd = false := by simp [timesOk, h1]
    rw [show timesN an ad bn bd = 0 by simp [timesN, hok], show timesD an ad bn bd = 0 by simp [timesD, hok], hok]
    exact times_bad1 _ _ _ _ w h1

end Go.Proofs.Ytkdcbinaglidoaa
