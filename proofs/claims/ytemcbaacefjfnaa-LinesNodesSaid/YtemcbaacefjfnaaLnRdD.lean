/- Arguments that are read: a row of pairs of whole numbers. -/
import Derived.Test.YtemcbaacefjfnaaLnRdC
set_option linter.unusedVariables false
namespace Go.Proofs.Ytemcbaacefjfnaa
open Go.ChangeShapes Go.WideShapes Go.ChangeAt Go.RowKit Go.Joins
theorem u8_wf {a : Int} (h : (Lit.int .u8 a).wf = true) : 0 ≤ a ∧ a ≤ 255 := by
  simp [Lit.wf, IntKind.min, IntKind.max, IntKind.signed, IntKind.bits] at h
  omega
theorem arg_ends_raw {H : Type} {enc : TypeId × Value → H} {P : Program} {w : World} {base : Nat} {spare : Nat → Bool} {held : Bool} {fuel : Nat} {t e u : TypeId} {cs : List Value} {x : DataW H × List MemPlace} {k : IntKind} (ht : P.underlying t = some (.slice e)) (he : P.underlying e = some (.array 2 u)) (hu : P.underlying u = some (.int k)) (hc : P.cellsOf u = 1) (ce : P.cellsOf e = 2)
    (h : DataW.trod enc P w base spare held fuel t cs = some x) :
    cs = [.slice none 0 0] ∨ ∃ (a : Addr) (len cap : Nat) (f : Nat → Int × Int), cs = [.slice (some a) len cap] ∧ base ≤ a.block ∧ len ≤ cap ∧ cap ≤ maxLen ∧
      ∀ i, i < len → w.cell? (a.add (i * 2)) = some (.int k (f i).1) ∧ w.cell? (a.add (i * 2 + 1)) = some (.int k (f i).2) := by
  rcases Deep.open_slice ht h with h0 | ⟨a, len, cap, m, n, D, Pl, rfl, hb, hl, hm, hmm, rfl, hx⟩
  · exact Or.inl h0.1
  right
  have hlm : len ≤ m := by rw [hmm]; split <;> omega
  have each : ∀ i, i < len → ∃ q : Int × Int, w.cell? (a.add (i * 2)) = some (.int k q.1) ∧ w.cell? (a.add (i * 2 + 1)) = some (.int k q.2) := by
    intro i hi
    obtain ⟨cs', h1, h2⟩ := hx i (by omega)
    rw [ce] at h1
    obtain ⟨_, hlen, hcell⟩ := World.cells?_some h1
    obtain ⟨xs, hxl, rfl, _⟩ := rd_ints he hu hc ce h2
    match xs, hxl with
    | [y0, y1], _ =>
      have e0 := hcell 0 (by omega)
      have e1 := hcell 1 (by omega)
      rw [Deep.add_add] at e0 e1
      exact ⟨(y0, y1), by simpa using e0, by simpa using e1⟩
  obtain ⟨q, hq⟩ := Deep.choose_lt each
  exact ⟨a, len, cap, q, rfl, hb, hl, hm, hq⟩
theorem arg_ends {H : Type} {enc : TypeId × Value → H} {P : Program} {w : World} {base : Nat} {spare : Nat → Bool} {held : Bool} {t e u : TypeId} {r : Reach} {b0 : Nat} {v : Value} {d : DataW H} {p : List MemPlace} {k : IntKind} (ht : P.underlying t = some (.slice e)) (he : P.underlying e = some (.array 2 u)) (hu : P.underlying u = some (.int k)) (hc : P.cellsOf u = 1) (ce : P.cellsOf e = 2)
    (hv : Value.okWide P w r b0 t v) (h : DataW.Trod enc P w base spare held t v d p) :
    ∃ (ao : Option Addr) (len c : Nat) (f0 f1 : Nat → Int), v = .slice ao len c ∧ len ≤ c ∧ c ≤ maxLen ∧ ∀ i, i < len → ∃ a, ao = some a ∧ a.block < w.heap.size ∧ w.cell? (a.add (i * 2)) = some (.int k (f0 i)) ∧ w.cell? (a.add (i * 2 + 1)) = some (.int k (f1 i)) := by
  obtain ⟨a, len, cap, rfl⟩ := okWide_slice ht hv
  obtain ⟨fuel, hf⟩ := h
  rcases arg_ends_raw ht he hu hc ce hf with e | ⟨a', len', cap', f, e, h1, h2, h3, h4⟩
  · simp [Value.cells] at e
    obtain ⟨rfl, rfl, rfl⟩ := e
    exact ⟨none, 0, 0, fun _ => 0, fun _ => 0, rfl, Nat.le_refl _, Nat.zero_le _, fun i hi => absurd hi (by omega)⟩
  · simp [Value.cells] at e
    obtain ⟨rfl, rfl, rfl⟩ := e
    exact ⟨some a', _, _, fun i => (f i).1, fun i => (f i).2, rfl, h2, h3, fun i hi => ⟨a', rfl, cell_lt (h4 i hi).1, h4 i hi⟩⟩
end Go.Proofs.Ytemcbaacefjfnaa
