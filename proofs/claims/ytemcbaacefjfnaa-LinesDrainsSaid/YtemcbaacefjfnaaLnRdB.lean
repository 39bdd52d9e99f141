/- Arguments that are read: a row of whole numbers, nil or not. -/
import Derived.Test.YtemcbaacefjfnaaLnRead
set_option linter.unusedVariables false
namespace Go.Proofs.Ytemcbaacefjfnaa
open Go.ChangeShapes Go.WideShapes Go.ChangeAt Go.RowKit Go.Joins
theorem arg_row {H : Type} {enc : TypeId × Value → H} {P : Program} {w : World} {base : Nat} {spare : Nat → Bool} {held : Bool} {t e : TypeId} {r : Reach} {b0 : Nat} {v : Value} {d : DataW H} {p : List MemPlace} {k : IntKind} (ht : P.underlying t = some (.slice e)) (he : P.underlying e = some (.int k)) (hc : P.cellsOf e = 1)
    (hv : Value.okWide P w r b0 t v) (h : DataW.Trod enc P w base spare held t v d p) :
    ∃ (ao : Option Addr) (len c : Nat) (z : Nat → Int), v = .slice ao len c ∧ len ≤ c ∧ c ≤ maxLen ∧ ∀ i, i < len → ∃ a, ao = some a ∧ a.block < w.heap.size ∧ w.cell? (a.add i) = some (.int k (z i)) ∧ (Lit.int k (z i)).wf = true := by
  rcases arg_nums ht he hc hv h with rfl | ⟨a, len, cap, f, rfl, h1, h2, h3, h4⟩
  · exact ⟨none, 0, 0, fun _ => 0, rfl, Nat.le_refl _, Nat.zero_le _, fun i hi => absurd hi (by omega)⟩
  · refine ⟨some a, len, cap, f, rfl, h2, h3, fun i hi => ⟨a, rfl, ?_, h4 i hi⟩⟩
    have hcell := (h4 i hi).1
    have hb : (a.add i).block = a.block := by unfold Addr.add; split <;> rfl
    unfold World.cell? at hcell
    rw [hb] at hcell
    rcases Nat.lt_or_ge a.block w.heap.size with hlt | hge
    · exact hlt
    · rw [Array.getElem?_eq_none hge] at hcell
      simp at hcell
end Go.Proofs.Ytemcbaacefjfnaa
