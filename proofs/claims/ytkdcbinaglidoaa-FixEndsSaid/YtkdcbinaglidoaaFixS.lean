/- Contracts of Mod, Made, Times, Line of package abugidaref01. -/
import Derived.Test.YtkdcbinaglidoaaFixR
set_option linter.unusedVariables false
set_option linter.unusedSimpArgs false
namespace Go.Proofs.Ytkdcbinaglidoaa
open Go.RowKit

theorem mod_eq {n m : Int} (h : 1 ≤ m) : -m < n.tmod m ∧ n.tmod m < m ∧ (n.tmod m + m).tmod m = n % m ∧ (n.tmod m + m) % m = n % m ∧ (n.tmod m) % m = n % m := by
  have m0 := Int.emod_nonneg n (show m ≠ 0 by omega)
  have m1 := Int.emod_lt_of_pos n (show 0 < m by omega)
  by_cases hs : 0 ≤ n ∨ n % m = 0
  · obtain ⟨t1, -⟩ := tquo_pos h hs
    rw [t1]
    have e : (n % m + m) % m = n % m := by rw [Int.add_emod_right, Int.emod_emod]
    exact ⟨by omega, by omega, by rw [Int.tmod_eq_emod_of_nonneg (by omega)]; exact e, e, Int.emod_emod ..⟩
  · obtain ⟨t1, -⟩ := tquo_neg h (by omega) (show n % m ≠ 0 by omega)
    rw [t1]
    have e : (n % m - m + m) % m = n % m := by rw [Int.sub_add_cancel, Int.emod_emod]
    exact ⟨by omega, by omega, by rw [Int.tmod_eq_emod_of_nonneg (by omega)]; exact e, e, by rw [Int.sub_emod_right, Int.emod_emod]⟩

set_option maxHeartbeats 400000 in
theorem rmod_any (n m : Int) (w : World) (h : 1 ≤ m) (h' : m ≤ 1152921504606846976) :
    Calls Try.prog 12 #[.int .i64 n, .int .i64 m] w fun e w' => e = .returned (.int .i64 (n % m)) ∧ w = w' := by
  have b0 : (m == 0) = false := by simp; omega
  obtain ⟨t1, t2, t3, t4, t5⟩ := mod_eq (n := n) h
  go_enter Try.func12, Try.ntmps12
  go_wp2
  go_ret
  exact ⟨rfl, rfl⟩

/-- Made -/
def madeDen (d : Int) : Int := 1 + d % 64
def madeNum (n d : Int) : Int := n % (madeDen d + 1)
def madeN (n d : Int) : Int := madeNum n d / gcdI (madeNum n d) (madeDen d)
def madeD (n d : Int) : Int := madeDen d / gcdI (madeNum n d) (madeDen d)

theorem made_bounds (n d : Int) : 1 ≤ madeDen d ∧ madeDen d ≤ 64 ∧ 0 ≤ madeNum n d ∧ madeNum n d ≤ madeDen d := by
  have h1 : 1 ≤ madeDen d ∧ madeDen d ≤ 64 := by unfold madeDen; omega
  have h2 : 0 ≤ madeNum n d := Int.emod_nonneg _ (by omega)
  have h3 : madeNum n d < madeDen d + 1 := Int.emod_lt_of_pos _ (by omega)
  omega

set_option maxHeartbeats 1000000 in
theorem rmade_any (n d : Int) (w : World) :
    Calls Try.prog 23 #[.int .i64 n, .int .i64 d] w fun e w' => e = .returned (.agg #[.int .i64 (madeN n d), .int .i64 (madeD n d)]) ∧ Below w.heap.size w w' := by
  obtain ⟨b1, b2, b3, b4⟩ := made_bounds n d
  obtain ⟨g1, g2, g3, g4, g5, g6⟩ := gcd_facts b3 b1
  have hd : 1 + d % 64 = madeDen d := rfl
  have hn : n % (madeDen d + 1) = madeNum n d := rfl
  have HD := Lib.hid hd
  have HN := Lib.hid hn
  have hg : gcdI (madeNum n d) (madeDen d) = ((Nat.gcd (madeNum n d).toNat (madeDen d).toNat : Nat) : Int) := rfl
  have HG := Lib.hid hg
  clear hd hn hg
  have m0 : 0 ≤ d % 64 := by omega
  have m1 : d % 64 < 64 := by omega
  go_enter Try.func23, Try.ntmps23
  go_wp2_with fail
  refine (rmod_any _ _ _ (by omega) (by omega)).mono ?_
  rintro e w' ⟨rfl, rfl⟩
  go_wp2_with fail
  rw [HD.out]
  refine (rmod_any _ _ _ (by omega) (by omega)).mono ?_
  rintro e w' ⟨rfl, rfl⟩
  rw [HN.out]
  go_wp2_with fail
  generalize hD : madeDen d = D at *
  generalize hN : madeNum n d = N at *
  obtain ⟨a, rfl⟩ := Int.eq_ofNat_of_zero_le b3
  obtain ⟨b, rfl⟩ := Int.eq_ofNat_of_zero_le (show 0 ≤ D by omega)
  refine (rcommon_any a b _ (by omega) (by omega)).mono ?_
  rintro e w1 ⟨rfl, ⟨k, rfl⟩⟩
  have hG := HG.out
  simp only [Int.toNat_natCast] at hG
  rw [← hG]
  have X1 : madeN n d = (a : Int) / gcdI a b := by unfold madeN; rw [hN, hD]
  have X2 : madeD n d = (b : Int) / gcdI a b := by unfold madeD; rw [hN, hD]
  have HX1 := Lib.hid X1
  have HX2 := Lib.hid X2
  clear hG HG HN HD hD hN m0 m1 X1 X2
  generalize gcdI (a : Int) (b : Int) = g at *
  have q0 : (g == 0) = false := by simp; omega
  have C : Blk ((w.alloc (.cells #[.int .i64 0, .int .i64 0] 31)).drewN k) w.heap.size #[.int .i64 0, .int .i64 0] 31 := (Blk.new w _ _ rfl)
  have HB : Below w.heap.size w ((w.alloc (.cells #[.int .i64 0, .int .i64 0] 31)).drewN k) := bdrewN (balloc (Below.refl _ _) _) _
  generalize World.drewN _ _ = w1 at *
  have c0 : w1.cell? ⟨w.heap.size, 0, none⟩ = some (.int .i64 0) := C.cell 0
  have c1 : w1.cell? ⟨w.heap.size, 1, none⟩ = some (.int .i64 0) := C.cell 1
  have f0 : w1.frozen? ⟨w.heap.size, 0, none⟩ = false := C.frozen 0
  have f1 : w1.frozen? ⟨w.heap.size, 1, none⟩ = false := C.frozen 1
  go_wp2
  go_region
  go_wp2
  refine bodyPost_ret (res_c rfl _ _ w.heap.size 31 #[.int .i64 ((a : Int) / g), .int .i64 ((b : Int) / g)] _ rfl ((C.drew.put 0 _ rfl).put 1 _ rfl) rfl Try.underlying31 (by kernel_rfl)) rfl ?_
  exact ⟨by rw [HX1.out, HX2.out], bset (bset (bdrew HB) (Nat.le_refl _) _ _) (Nat.le_refl _) _ _⟩

end Go.Proofs.Ytkdcbinaglidoaa
