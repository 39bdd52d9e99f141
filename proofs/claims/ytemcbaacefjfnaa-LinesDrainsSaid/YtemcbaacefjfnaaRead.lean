/- Arguments that are read: what their values look like. -/
import Derived.Test.YtemcbaacefjfnaaKit
import Derived.ProofKit
import Derived.OpenShut
import Derived.Lib.SmallJoins
set_option linter.unusedVariables false
set_option linter.unusedSimpArgs false
namespace Go.Proofs.Ytemcbaacefjfnaa
open Go.ChangeShapes Go.WideShapes Go.ChangeAt Go.RowKit Go.Joins

section
variable {H : Type} {enc : TypeId × Value → H} {P : Program} {w : World} {base : Nat} {spare : Nat → Bool} {held : Bool} {fuel : Nat} {t e : TypeId} {cs : List Value} {x : DataW H × List MemPlace}

theorem okWide_array {n : Nat} {r : Reach} {v : Value} (ht : P.underlying t = some (.array n e)) (h : Value.okWide P w r base t v) : ∃ cs, v = .agg cs ∧ cs.size = P.cellsOf t := by
  simp only [Value.okWide, ht] at h
  obtain ⟨cs, h1, h2, _⟩ := h
  exact ⟨cs, h1, h2⟩

/-- an array of whole numbers: its cells -/
theorem rd_ints {n : Nat} {k : IntKind} (ht : P.underlying t = some (.array n e)) (he : P.underlying e = some (.int k)) (hc : P.cellsOf e = 1) (hC : P.cellsOf t = n) (h : DataW.trod enc P w base spare held fuel t cs = some x) :
    ∃ xs : List Int, xs.length = n ∧ cs = xs.map (Value.int k) ∧ ∀ y ∈ xs, (Lit.int k y).wf = true := by
  obtain ⟨ys, m, rfl, rfl, hl, hn, hy⟩ := DataW.trod_array ht h
  rw [hC] at hl
  have key : ∀ i (hi : i < cs.length), ∃ z, cs[i] = .int k z ∧ (Lit.int k z).wf = true := by
    intro i hi
    have hh := hy i (by omega)
    rw [hc, Nat.mul_one] at hh
    have h2 : (cs.drop i).take 1 = [cs[i]] := by rw [List.drop_eq_getElem_cons hi]; rfl
    rw [h2, List.getElem?_eq_getElem (by omega)] at hh
    obtain ⟨z, hz, _, hw⟩ := DataW.trod_int he hh
    exact ⟨z, by simpa using hz, hw⟩
  clear hy
  refine ⟨cs.map (fun v => match v with | .int _ z => z | _ => 0), by simpa using hl, ?_, ?_⟩
  · apply List.ext_getElem
    · simp
    · intro i h1 h2
      obtain ⟨z, hz, _⟩ := key i h1
      simp [hz]
  · intro y hy
    rw [List.mem_map] at hy
    obtain ⟨v, hv, rfl⟩ := hy
    obtain ⟨i, hi, rfl⟩ := List.getElem_of_mem hv
    obtain ⟨z, hz, hw⟩ := key i hi
    simpa [hz] using hw

theorem arg_ints {n : Nat} {k : IntKind} {r : Reach} {b0 : Nat} {v : Value} {d : DataW H} {p : List MemPlace} (ht : P.underlying t = some (.array n e)) (he : P.underlying e = some (.int k)) (hc : P.cellsOf e = 1) (hC : P.cellsOf t = n)
    (hv : Value.okWide P w r b0 t v) (h : DataW.Trod enc P w base spare held t v d p) : ∃ xs : List Int, xs.length = n ∧ v = .agg (xs.map (Value.int k)).toArray ∧ ∀ y ∈ xs, (Lit.int k y).wf = true := by
  obtain ⟨cs, rfl, _⟩ := okWide_array ht hv
  obtain ⟨fuel, hf⟩ := h
  obtain ⟨xs, h1, h2, h3⟩ := rd_ints ht he hc hC hf
  refine ⟨xs, h1, ?_, h3⟩
  have : cs.toList = xs.map (Value.int k) := h2
  rw [← this]

theorem arg_int2 {k : IntKind} {r : Reach} {b0 : Nat} {v : Value} {d : DataW H} {p : List MemPlace} (ht : P.underlying t = some (.array 2 e)) (he : P.underlying e = some (.int k)) (hc : P.cellsOf e = 1) (hC : P.cellsOf t = 2)
    (hv : Value.okWide P w r b0 t v) (h : DataW.Trod enc P w base spare held t v d p) : ∃ a b : Int, v = .agg #[.int k a, .int k b] ∧ (Lit.int k a).wf = true ∧ (Lit.int k b).wf = true := by
  obtain ⟨xs, h1, rfl, h3⟩ := arg_ints ht he hc hC hv h
  match xs, h1 with
  | [a, b], _ => exact ⟨a, b, rfl, h3 a (by simp), h3 b (by simp)⟩

theorem arg_int3 {k : IntKind} {r : Reach} {b0 : Nat} {v : Value} {d : DataW H} {p : List MemPlace} (ht : P.underlying t = some (.array 3 e)) (he : P.underlying e = some (.int k)) (hc : P.cellsOf e = 1) (hC : P.cellsOf t = 3)
    (hv : Value.okWide P w r b0 t v) (h : DataW.Trod enc P w base spare held t v d p) : ∃ a b c : Int, v = .agg #[.int k a, .int k b, .int k c] ∧ (Lit.int k a).wf = true ∧ (Lit.int k b).wf = true ∧ (Lit.int k c).wf = true := by
  obtain ⟨xs, h1, rfl, h3⟩ := arg_ints ht he hc hC hv h
  match xs, h1 with
  | [a, b, c], _ => exact ⟨a, b, c, rfl, h3 a (by simp), h3 b (by simp), h3 c (by simp)⟩

/-- a struct of two whole numbers -/
theorem arg_pair {k k' : IntKind} {r : Reach} {b0 : Nat} {f0 f1 : Field} {v : Value} {d : DataW H} {p : List MemPlace} (hs : P.underlying t = some (.struct #[f0, f1])) (hone : Deep.oneCellFields P #[f0, f1] = true) (hC : P.cellsOf t = 2)
    (h0 : P.underlying f0.type = some (.int k)) (h1 : P.underlying f1.type = some (.int k'))
    (hv : Value.okWide P w r b0 t v) (h : DataW.Trod enc P w base spare held t v d p) : ∃ a b : Int, v = .agg #[.int k a, .int k' b] ∧ (Lit.int k a).wf = true ∧ (Lit.int k' b).wf = true := by
  obtain ⟨v0, v1, y0, y1, n, rfl, _, _, e0, e1⟩ := Go.Joins.open_agg2 hs hone hC hv h
  obtain ⟨a, ha, _, wa⟩ := DataW.trod_int h0 e0
  obtain ⟨b, hb, _, wb⟩ := DataW.trod_int h1 e1
  simp at ha hb
  exact ⟨a, b, by rw [ha, hb], wa, wb⟩
end
end Go.Proofs.Ytemcbaacefjfnaa
