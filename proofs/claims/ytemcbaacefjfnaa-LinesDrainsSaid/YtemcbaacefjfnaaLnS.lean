/- short: at most 40 troubles. -/
import Derived.Test.YtemcbaacefjfnaaLnM
set_option linter.unusedVariables false
set_option linter.unusedSimpArgs false
namespace Go.Proofs.Ytemcbaacefjfnaa
open Go.RowKit Go.Proofs.YtemcbaacefjfnaaW.PrintWords Go.Proofs.YtemcbaacefjfnaaW.PrintLast

set_option maxRecDepth 100000 in
set_option maxHeartbeats 2000000 in
theorem short_nil (w0 : World) : Calls Try.prog 12 #[.slice none 0 0] w0 fun e w' => e = .returned (.slice none 0 0) ∧ w0 = w' := by
  go_enter Try.func12, Try.ntmps12
  go_wp2
  go_ret
  exact ⟨rfl, rfl⟩
set_option maxRecDepth 100000 in
set_option maxHeartbeats 2000000 in
theorem short_some (a : Addr) (len cap : Nat) (hl : len ≤ cap) (w0 : World) : Calls Try.prog 12 #[.slice (some a) len cap] w0 fun e w' => e = .returned (.slice (some a) (min len 40) cap) ∧ w0 = w' := by
  by_cases h : len ≤ 40
  · have e : min len 40 = len := by omega
    rw [e]; clear e
    go_enter Try.func12, Try.ntmps12
    go_wp2
    go_ret
    exact ⟨rfl, rfl⟩
  · have e : min len 40 = 40 := by omega
    rw [e]; clear e
    go_enter Try.func12, Try.ntmps12
    go_wp2
    go_ret
    exact ⟨rfl, rfl⟩

end Go.Proofs.Ytemcbaacefjfnaa
