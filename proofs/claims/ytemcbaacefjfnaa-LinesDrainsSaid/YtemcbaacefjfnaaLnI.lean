/- Small contracts. -/
import Derived.Test.YtemcbaacefjfnaaLnH
import Derived.IntWalk
set_option linter.unusedVariables false
set_option linter.unusedSimpArgs false
namespace Go.Proofs.Ytemcbaacefjfnaa
open Go.RowKit Go.Proofs.YtemcbaacefjfnaaW.PrintWords Go.Proofs.YtemcbaacefjfnaaW.PrintLast

theorem tquo_pos {n d : Int} (hd : 1 ≤ d) (h : 0 ≤ n ∨ n % d = 0) : n.tmod d = n % d ∧ n.tdiv d = n / d := by
  have h1 := Int.emod_add_mul_ediv n d
  rcases h with h | h
  · exact ⟨Int.tmod_eq_emod_of_nonneg h, Int.tdiv_eq_ediv_of_nonneg h⟩
  · have hdv : d ∣ n := Int.dvd_of_emod_eq_zero h
    refine ⟨?_, ?_⟩
    · rw [Int.tmod_eq_emod]; simp [hdv]
    · rw [Int.tdiv_eq_ediv]; simp [hdv]

theorem tquo_neg {n d : Int} (hd : 1 ≤ d) (h : n < 0) (h' : n % d ≠ 0) : n.tmod d = n % d - d ∧ n.tdiv d = n / d + 1 := by
  have hdv : ¬ d ∣ n := fun hd => h' (Int.emod_eq_zero_of_dvd hd)
  have hs : d.sign = 1 := Int.sign_eq_one_of_pos (by omega)
  refine ⟨?_, ?_⟩
  · rw [Int.tmod_eq_emod, if_neg (by intro hh; rcases hh with hh | hh; omega; exact hdv hh)]; omega
  · rw [Int.tdiv_eq_ediv, if_neg (by intro hh; rcases hh with hh | hh; omega; exact hdv hh), hs]

theorem mod_eq {n m : Int} (h : 1 ≤ m) : -m < n.tmod m ∧ n.tmod m < m ∧ (n.tmod m + m).tmod m = n % m ∧ (n.tmod m + m) % m = n % m ∧ (n.tmod m) % m = n % m := by
  have m0 := Int.emod_nonneg n (show m ≠ 0 by omega)
  have m1 := Int.emod_lt_of_pos n (show 0 < m by omega)
  by_cases hs : 0 ≤ n ∨ n % m = 0
  · obtain ⟨t1, -⟩ := tquo_pos h hs
    rw [t1]
    have e : (n % m + m) % m = n % m := by rw [Int.add_emod_right, Int.emod_emod]
    exact ⟨by omega, by omega, by rw [Int.tmod_eq_emod_of_nonneg (by omega)]; exact e, e, Int.emod_emod ..⟩
  · obtain ⟨t1, -⟩ := tquo_neg h (by omega) (show n % m ≠ 0 by omega)
    rw [t1]
    have e : (n % m - m + m) % m = n % m := by rw [Int.sub_add_cancel, Int.emod_emod]
    exact ⟨by omega, by omega, by rw [Int.tmod_eq_emod_of_nonneg (by omega)]; exact e, e, by rw [Int.sub_emod_right, Int.emod_emod]⟩

def clampI (a l h : Int) : Int := max l (min a h)

theorem clampI_eq (a l h : Int) : clampI a l h = if l < (if h < a then h else a) then (if h < a then h else a) else l := by
  unfold clampI; split <;> split <;> omega

set_option maxHeartbeats 1000000 in
theorem clamp_any (a l h : Int) (w : World) :
    Calls Try.prog 25 #[.int .i64 a, .int .i64 l, .int .i64 h] w fun e w' => e = .returned (.int .i64 (clampI a l h)) ∧ w = w' := by
  by_cases c1 : h < a
  · by_cases c2 : l < h
    · have e : clampI a l h = h := by unfold clampI; omega
      rw [e]; clear e
      go_enter Try.func25, Try.ntmps25
      go_wp2
      go_ret
      exact ⟨rfl, rfl⟩
    · have e : clampI a l h = l := by unfold clampI; omega
      rw [e]; clear e
      go_enter Try.func25, Try.ntmps25
      go_wp2
      go_ret
      exact ⟨rfl, rfl⟩
  · by_cases c2 : l < a
    · have e : clampI a l h = a := by unfold clampI; omega
      rw [e]; clear e
      go_enter Try.func25, Try.ntmps25
      go_wp2
      go_ret
      exact ⟨rfl, rfl⟩
    · have e : clampI a l h = l := by unfold clampI; omega
      rw [e]; clear e
      go_enter Try.func25, Try.ntmps25
      go_wp2
      go_ret
      exact ⟨rfl, rfl⟩

set_option maxHeartbeats 1000000 in
theorem rclamp_any (a l h : Int) (w : World) :
    Calls Try.prog 19 #[.int .i64 a, .int .i64 l, .int .i64 h] w fun e w' => e = .returned (.int .i64 (clampI a l h)) ∧ w = w' := by
  by_cases c1 : h < a
  · by_cases c2 : l < h
    · have e : clampI a l h = h := by unfold clampI; omega
      rw [e]; clear e
      go_enter Try.func19, Try.ntmps19
      go_wp2
      go_ret
      exact ⟨rfl, rfl⟩
    · have e : clampI a l h = l := by unfold clampI; omega
      rw [e]; clear e
      go_enter Try.func19, Try.ntmps19
      go_wp2
      go_ret
      exact ⟨rfl, rfl⟩
  · by_cases c2 : l < a
    · have e : clampI a l h = a := by unfold clampI; omega
      rw [e]; clear e
      go_enter Try.func19, Try.ntmps19
      go_wp2
      go_ret
      exact ⟨rfl, rfl⟩
    · have e : clampI a l h = l := by unfold clampI; omega
      rw [e]; clear e
      go_enter Try.func19, Try.ntmps19
      go_wp2
      go_ret
      exact ⟨rfl, rfl⟩

set_option maxHeartbeats 400000 in
theorem rmod_any (n m : Int) (w : World) (h : 1 ≤ m) (h' : m ≤ 1152921504606846976) :
    Calls Try.prog 17 #[.int .i64 n, .int .i64 m] w fun e w' => e = .returned (.int .i64 (n % m)) ∧ w = w' := by
  have b0 : (m == 0) = false := by simp; omega
  obtain ⟨t1, t2, t3, t4, t5⟩ := mod_eq (n := n) h
  go_enter Try.func17, Try.ntmps17
  go_wp2
  go_ret
  exact ⟨rfl, rfl⟩

theorem quiet_same {P : Program} {f : FuncId} {args : Array Value} {w : World} {n : Nat} {v : Value}
    (h : Calls P f args (w.drewN n) fun e w' => e = .returned v ∧ w.drewN n = w') : Calls P f args (w.drewN n) fun e w'' => e = .returned v ∧ ∃ m, w'' = w.drewN m :=
  h.mono fun _ _ ⟨he, hm⟩ => ⟨he, n, hm.symm⟩

def nodeB (n a : Int) : Bool := decide (0 ≤ a) && decide (a < n)

set_option maxHeartbeats 1000000 in
theorem node_any (l : Nat) (n a : Int) (w : World) (hc : w.cell? ⟨l, 0, none⟩ = some (.int .i64 n)) :
    Calls Try.prog 24 #[.pointer (some ⟨l, 0, none⟩), .int .i64 a] w fun e w' => e = .returned (.bool (nodeB n a)) ∧ w = w' := by
  by_cases c1 : 0 ≤ a
  · by_cases c2 : a < n
    · have e : nodeB n a = true := by simp [nodeB, c1, c2]
      rw [e]; clear e
      go_enter Try.func24, Try.ntmps24
      go_wp2
      go_ret
      exact ⟨rfl, rfl⟩
    · have e : nodeB n a = false := by simp [nodeB]; omega
      have d2 : decide (a < n) = false := by simpa using c2
      rw [e]; clear e
      go_enter Try.func24, Try.ntmps24
      go_wp2
      go_ret
      exact ⟨rfl, rfl⟩
  · have e : nodeB n a = false := by simp [nodeB]; omega
    have d1 : decide (0 ≤ a) = false := by simpa using c1
    rw [e]; clear e
    go_enter Try.func24, Try.ntmps24
    go_wp2
    go_ret
    exact ⟨rfl, rfl⟩

end Go.Proofs.Ytemcbaacefjfnaa
