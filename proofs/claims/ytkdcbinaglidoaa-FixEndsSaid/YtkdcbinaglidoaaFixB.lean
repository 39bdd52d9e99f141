/- Contracts of small, common and right of package fix. -/
import Derived.Test.YtkdcbinaglidoaaFixA
set_option linter.unusedVariables false
set_option linter.unusedSimpArgs false
namespace Go.Proofs.Ytkdcbinaglidoaa
open Go.RowKit

/-- a number is small -/
def sm (x : Int) : Bool := decide (-1048576 ≤ x) && decide (x ≤ 1048576)
theorem sm_true {x : Int} : sm x = true ↔ -1048576 ≤ x ∧ x ≤ 1048576 := by simp [sm]
theorem sm_false {x : Int} : sm x = false ↔ x < -1048576 ∨ 1048576 < x := by simp [sm]; omega

theorem all_take {l : List Int} {k : Nat} (hk : k < l.length) (p : Int → Bool) (h : (l.take k).all p = true) (h' : p (l.getD k 0) = true) : (l.take (k + 1)).all p = true := by
  rw [List.take_succ_eq_append_getElem hk, List.all_append, h]
  simp [List.getD_eq_getElem?_getD, hk] at h' ⊢
  exact h'
theorem all_no {l : List Int} {k : Nat} (hk : k < l.length) (p : Int → Bool) (h' : p (l.getD k 0) = false) : l.all p = false := by
  rw [List.all_eq_false]
  refine ⟨l[k], List.getElem_mem hk, ?_⟩
  simp [List.getD_eq_getElem?_getD, hk] at h'
  simp [h']

set_option maxHeartbeats 400000 in
theorem small_any (g c : Nat) (l : List Int) (w : World) (hl : l.length ≤ 100) (hc : ∀ j, j < l.length → w.cell? ⟨g, j, none⟩ = some (.int .i64 (l.getD j 0))) :
    Calls Try.prog 35 #[.slice (some ⟨g, 0, none⟩) l.length c] w fun e w' => e = .returned (.bool (l.all sm)) ∧ w = w' := by
  have HC := Lib.hid hc
  clear hc
  go_enter Try.func35, Try.ntmps35
  go_wp2
  go_loop [7] (fun i => ∃ k : Nat, k ≤ l.length ∧ i = .int .i64 k ∧ Hid ((l.take k).all sm = true)) (fun i => l.length - (intOf i).toNat)
  case atStart => exact ⟨0, Nat.zero_le _, rfl, by simp [Hid]⟩
  case round =>
    obtain ⟨k, hk, rfl, ht⟩ := hrel
    by_cases hlt : k < l.length
    · have hcell := HC.out k hlt
      by_cases hs : sm (l.getD k 0) = true
      · have ht' := all_take hlt sm ht.out hs
        have hs' := sm_true.1 hs
        have HT := Lib.hid ht'
        clear ht' hs ht
        generalize l.getD k 0 = x at *
        obtain ⟨x1, x2⟩ := hs'
        go_wp2
        go_round
        case rel => exact ⟨k + 1, by omega, by go_num, HT.out⟩
        case measure => simp [intOf]; omega
      · have hs2 : sm (l.getD k 0) = false := by simpa using hs
        have hno := all_no hlt sm hs2
        have hs' := sm_false.1 hs2
        have HT := Lib.hid hno
        clear hno hs hs2 ht
        generalize l.getD k 0 = x at *
        by_cases hx : x < -1048576
        · clear hs'
          go_wp2
          go_ret
          exact ⟨ret_bool HT.out.symm, rfl⟩
        · have hx' : 1048576 < x := by omega
          clear hs'
          go_wp2
          go_ret
          exact ⟨ret_bool HT.out.symm, rfl⟩
    · have hh : (l.all sm) = true := by have := ht.out; rwa [List.take_of_length_le (by omega)] at this
      have HT := Lib.hid hh
      clear hh ht
      go_wp2
      go_ret
      exact ⟨ret_bool HT.out.symm, rfl⟩

theorem small_new (l : List Int) (g n c : Nat) (W : World) (xs : Array Value) (T : TypeId) (hx : xs = (l.map (Value.int .i64)).toArray) (hl : l.length ≤ 100) (hn : n = l.length) (hg : g = W.heap.size) :
    Calls Try.prog 35 #[.slice (some ⟨g, 0, none⟩) n c] (W.alloc (.cells xs T)) fun e w' => e = .returned (.bool (l.all sm)) ∧ W.alloc (.cells xs T) = w' := by
  subst hg hn hx
  refine small_any _ c l _ hl fun j hj => ?_
  rw [World.cell?_alloc_new]
  simp [List.getD_eq_getElem?_getD, hj]

theorem gcd_step (a b : Nat) (hb : 0 < b) : Nat.gcd b (a % b) = Nat.gcd a b := by
  rw [Nat.gcd_comm a b, Nat.gcd_rec b a, Nat.gcd_comm]

set_option maxHeartbeats 400000 in
theorem common_any (a b : Nat) (w : World) (ha : a ≤ 9223372036854775807) (hb : b ≤ 9223372036854775807) :
    Calls Try.prog 41 #[.int .i64 a, .int .i64 b] w fun e w' => e = .returned (.int .i64 (Nat.gcd a b)) ∧ ∃ n, w' = w.drewN n := by
  go_enter Try.func41, Try.ntmps41
  go_wp2
  go_loopw [0, 1] (fun x y wr => ∃ p q : Nat, p ≤ 9223372036854775807 ∧ q ≤ 9223372036854775807 ∧ x = .int .i64 p ∧ y = .int .i64 q ∧ Hid (Nat.gcd p q = Nat.gcd a b) ∧ Hid (∃ n, wr = w.drewN n)) (fun x y _ => (intOf y).toNat)
  case atStart => exact ⟨a, b, ha, hb, rfl, rfl, rfl, ⟨0, rfl⟩⟩
  case round =>
    obtain ⟨p, q, hp, hq, rfl, rfl, hg, hw⟩ := hrel
    by_cases h0 : 0 < q
    · have hg' := gcd_step p q h0
      rw [hg.out] at hg'
      have HG := Lib.hid hg'
      clear hg' hg
      have b0 : ((q : Int) == 0) = false := by simp; omega
      have m := Nat.mod_lt p h0
      have e1 : ((p : Int)).tmod (q : Int) = ((p % q : Nat) : Int) := rfl
      go_wp2
      go_quiet (fail)
      go_wp2
      go_roundw
      case rel => exact ⟨q, p % q, hq, by omega, rfl, rfl, HG.out, by obtain ⟨n, rfl⟩ := hw.out; exact ⟨_, World.drewN_drewN _ _ _⟩⟩
      case measure => simp [intOf]; omega
    · have hq0 : q = 0 := by omega
      subst hq0
      have hg' := hg.out
      rw [Nat.gcd_zero_right] at hg'
      have HG := Lib.hid hg'
      clear hg' hg
      go_wp2
      go_ret
      exact ⟨ret_int (by rw [HG.out]), hw.out⟩

end Go.Proofs.Ytkdcbinaglidoaa
