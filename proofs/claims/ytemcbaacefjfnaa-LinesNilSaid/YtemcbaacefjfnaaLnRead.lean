/- Arguments that are read: a trouble, a message, a row of them. -/
import Derived.Test.YtemcbaacefjfnaaRead
import Derived.ChangeMaps5
set_option linter.unusedVariables false
set_option linter.unusedSimpArgs false
namespace Go.Proofs.Ytemcbaacefjfnaa
open Go.ChangeShapes Go.WideShapes Go.ChangeAt Go.RowKit Go.Joins

section
variable {H : Type} {enc : TypeId × Value → H} {P : Program} {w : World} {base : Nat} {spare : Nat → Bool} {held : Bool} {fuel : Nat} {t e : TypeId} {cs : List Value} {x : DataW H × List MemPlace}

theorem arg_bii {k k' : IntKind} {r : Reach} {b0 : Nat} {f0 f1 f2 : Field} {v : Value} {d : DataW H} {p : List MemPlace} (hs : P.underlying t = some (.struct #[f0, f1, f2])) (hone : Deep.oneCellFields P #[f0, f1, f2] = true) (hC : P.cellsOf t = 3)
    (h0 : P.underlying f0.type = some .bool) (h1 : P.underlying f1.type = some (.int k)) (h2 : P.underlying f2.type = some (.int k'))
    (hv : Value.okWide P w r b0 t v) (h : DataW.Trod enc P w base spare held t v d p) : ∃ (a : Bool) (b c : Int), v = .agg #[.bool a, .int k b, .int k' c] := by
  obtain ⟨v0, v1, v2, y0, y1, y2, n, rfl, _, _, e0, e1, e2⟩ := Go.Joins.open_agg3 hs hone hC hv h
  obtain ⟨a, ha, _⟩ := DataW.trod_bool h0 e0
  obtain ⟨b, hb, _, wb⟩ := DataW.trod_int h1 e1
  obtain ⟨c, hc, _, wc⟩ := DataW.trod_int h2 e2
  simp at ha hb hc
  exact ⟨a, b, c, by rw [ha, hb, hc]⟩
theorem arg_iis {k k' : IntKind} {r : Reach} {b0 : Nat} {f0 f1 f2 : Field} {v : Value} {d : DataW H} {p : List MemPlace} (hs : P.underlying t = some (.struct #[f0, f1, f2])) (hone : Deep.oneCellFields P #[f0, f1, f2] = true) (hC : P.cellsOf t = 3)
    (h0 : P.underlying f0.type = some (.int k)) (h1 : P.underlying f1.type = some (.int k')) (h2 : P.underlying f2.type = some .string)
    (hv : Value.okWide P w r b0 t v) (h : DataW.Trod enc P w base spare held t v d p) : ∃ (a b : Int) (c : ByteArray), v = .agg #[.int k a, .int k' b, .string c] := by
  obtain ⟨v0, v1, v2, y0, y1, y2, n, rfl, _, _, e0, e1, e2⟩ := Go.Joins.open_agg3 hs hone hC hv h
  obtain ⟨a, ha, _⟩ := DataW.trod_int h0 e0
  obtain ⟨b, hb, _, wb⟩ := DataW.trod_int h1 e1
  obtain ⟨c, hc, _, wc⟩ := DataW.trod_string h2 e2
  simp at ha hb hc
  exact ⟨a, b, c, by rw [ha, hb, hc]⟩
end
end Go.Proofs.Ytemcbaacefjfnaa
