/- Arguments that are read: a trouble, a message, a row of them. -/
import Derived.Test.YtemcbaacefjfnaaRead
import Derived.ChangeMaps5
import Derived.Deep.SlicePairs
set_option linter.unusedVariables false
set_option linter.unusedSimpArgs false
namespace Go.Proofs.Ytemcbaacefjfnaa
open Go.ChangeShapes Go.WideShapes Go.ChangeAt Go.RowKit Go.Joins

section
variable {H : Type} {enc : TypeId × Value → H} {P : Program} {w : World} {base : Nat} {spare : Nat → Bool} {held : Bool} {fuel : Nat} {t e : TypeId} {cs : List Value} {x : DataW H × List MemPlace}

theorem arg_bii {k k' : IntKind} {r : Reach} {b0 : Nat} {f0 f1 f2 : Field} {v : Value} {d : DataW H} {p : List MemPlace} (hs : P.underlying t = some (.struct #[f0, f1, f2])) (hone : Deep.oneCellFields P #[f0, f1, f2] = true) (hC : P.cellsOf t = 3)
    (h0 : P.underlying f0.type = some .bool) (h1 : P.underlying f1.type = some (.int k)) (h2 : P.underlying f2.type = some (.int k'))
    (hv : Value.okWide P w r b0 t v) (h : DataW.Trod enc P w base spare held t v d p) : ∃ (a : Bool) (b c : Int), v = .agg #[.bool a, .int k b, .int k' c] := by
  obtain ⟨v0, v1, v2, y0, y1, y2, n, rfl, _, _, e0, e1, e2⟩ := Go.Joins.open_agg3 hs hone hC hv h
  obtain ⟨a, ha, _⟩ := DataW.trod_bool h0 e0
  obtain ⟨b, hb, _, wb⟩ := DataW.trod_int h1 e1
  obtain ⟨c, hc, _, wc⟩ := DataW.trod_int h2 e2
  simp at ha hb hc
  exact ⟨a, b, c, by rw [ha, hb, hc]⟩
theorem arg_iis {k k' : IntKind} {r : Reach} {b0 : Nat} {f0 f1 f2 : Field} {v : Value} {d : DataW H} {p : List MemPlace} (hs : P.underlying t = some (.struct #[f0, f1, f2])) (hone : Deep.oneCellFields P #[f0, f1, f2] = true) (hC : P.cellsOf t = 3)
    (h0 : P.underlying f0.type = some (.int k)) (h1 : P.underlying f1.type = some (.int k')) (h2 : P.underlying f2.type = some .string)
    (hv : Value.okWide P w r b0 t v) (h : DataW.Trod enc P w base spare held t v d p) : ∃ (a b : Int) (c : ByteArray), v = .agg #[.int k a, .int k' b, .string c] := by
  obtain ⟨v0, v1, v2, y0, y1, y2, n, rfl, _, _, e0, e1, e2⟩ := Go.Joins.open_agg3 hs hone hC hv h
  obtain ⟨a, ha, _⟩ := DataW.trod_int h0 e0
  obtain ⟨b, hb, _, wb⟩ := DataW.trod_int h1 e1
  obtain ⟨c, hc, _, wc⟩ := DataW.trod_string h2 e2
  simp at ha hb hc
  exact ⟨a, b, c, by rw [ha, hb, hc]⟩

/-- the cells of a slice of structs of a Boolean and two whole numbers -/
theorem arg_tbs_raw {f0 f1 f2 : Field} (ht : P.underlying t = some (.slice e)) (he : P.underlying e = some (.struct #[f0, f1, f2])) (ce : P.cellsOf e = 3) (o0 : f0.offset = 0) (o1 : f1.offset = 1) (o2 : f2.offset = 2)
    (c0 : P.cellsOf f0.type = 1) (c1 : P.cellsOf f1.type = 1) (c2 : P.cellsOf f2.type = 1) (u0 : P.underlying f0.type = some .bool) (u1 : P.underlying f1.type = some (.int .i64)) (u2 : P.underlying f2.type = some (.int .i64))
    (h : DataW.trod enc P w base spare held fuel t cs = some x) :
    cs = [.slice none 0 0] ∨ ∃ (a : Addr) (len cap : Nat) (f : Nat → Bool × Int × Int), cs = [.slice (some a) len cap] ∧ base ≤ a.block ∧ len ≤ cap ∧ cap ≤ maxLen ∧
      ∀ i, i < len → w.cell? (a.add (i * 3)) = some (.bool (f i).1) ∧ w.cell? (a.add (i * 3 + 1)) = some (.int .i64 (f i).2.1) ∧ w.cell? (a.add (i * 3 + 2)) = some (.int .i64 (f i).2.2) := by
  rcases Deep.open_slice ht h with h0 | ⟨a, len, cap, m, n, D, Pl, rfl, hb, hl, hm, hmm, rfl, hx⟩
  · exact Or.inl h0.1
  right
  have hlm : len ≤ m := by rw [hmm]; split <;> omega
  have each : ∀ i, i < len → ∃ q : Bool × Int × Int, w.cell? (a.add (i * 3)) = some (.bool q.1) ∧ w.cell? (a.add (i * 3 + 1)) = some (.int .i64 q.2.1) ∧ w.cell? (a.add (i * 3 + 2)) = some (.int .i64 q.2.2) := by
    intro i hi
    obtain ⟨cs', h1, h2⟩ := hx i (by omega)
    rw [ce] at h1
    obtain ⟨_, hlen, hcell⟩ := World.cells?_some h1
    obtain ⟨xs, k, hk, hxy, _, hxl, hf⟩ := DataW.trod_struct he h2
    match xs, hxl, cs', hlen with
    | [y0, y1, y2], _, [v0, v1, v2], _ =>
      have g0 := hf 0 f0 rfl
      have g1 := hf 1 f1 rfl
      have g2 := hf 2 f2 rfl
      simp [o0, o1, o2, c0, c1, c2] at g0 g1 g2
      obtain ⟨b, hb0, _⟩ := DataW.trod_bool u0 g0
      obtain ⟨z1, hz1, _⟩ := DataW.trod_int u1 g1
      obtain ⟨z2, hz2, _⟩ := DataW.trod_int u2 g2
      simp at hb0 hz1 hz2
      have e0 := hcell 0 (by omega)
      have e1 := hcell 1 (by omega)
      have e2 := hcell 2 (by omega)
      rw [Deep.add_add] at e0 e1 e2
      exact ⟨(b, z1, z2), by simpa [hb0] using e0, by simpa [hz1] using e1, by simpa [hz2] using e2⟩
  obtain ⟨q, hq⟩ := Deep.choose_lt each
  exact ⟨a, len, cap, q, rfl, hb, hl, hm, hq⟩

theorem arg_tbs {r : Reach} {b0 : Nat} {v : Value} {d : DataW H} {p : List MemPlace} {f0 f1 f2 : Field} (ht : P.underlying t = some (.slice e)) (he : P.underlying e = some (.struct #[f0, f1, f2])) (ce : P.cellsOf e = 3) (o0 : f0.offset = 0) (o1 : f1.offset = 1) (o2 : f2.offset = 2)
    (c0 : P.cellsOf f0.type = 1) (c1 : P.cellsOf f1.type = 1) (c2 : P.cellsOf f2.type = 1) (u0 : P.underlying f0.type = some .bool) (u1 : P.underlying f1.type = some (.int .i64)) (u2 : P.underlying f2.type = some (.int .i64))
    (hv : Value.okWide P w r b0 t v) (h : DataW.Trod enc P w base spare held t v d p) :
    v = .slice none 0 0 ∨ ∃ (a : Addr) (len cap : Nat) (f : Nat → Bool × Int × Int), v = .slice (some a) len cap ∧ base ≤ a.block ∧ len ≤ cap ∧ cap ≤ maxLen ∧
      ∀ i, i < len → w.cell? (a.add (i * 3)) = some (.bool (f i).1) ∧ w.cell? (a.add (i * 3 + 1)) = some (.int .i64 (f i).2.1) ∧ w.cell? (a.add (i * 3 + 2)) = some (.int .i64 (f i).2.2) := by
  obtain ⟨a, len, cap, rfl⟩ := okWide_slice ht hv
  obtain ⟨fuel, hf⟩ := h
  rcases arg_tbs_raw ht he ce o0 o1 o2 c0 c1 c2 u0 u1 u2 hf with e | ⟨a', len', cap', f, e, r⟩
  · simp [Value.cells] at e
    obtain ⟨rfl, rfl, rfl⟩ := e
    exact .inl rfl
  · simp [Value.cells] at e
    obtain ⟨rfl, rfl, rfl⟩ := e
    exact .inr ⟨a', _, _, f, rfl, r⟩
theorem arg_nums {r : Reach} {b0 : Nat} {v : Value} {d : DataW H} {p : List MemPlace} {k : IntKind} (ht : P.underlying t = some (.slice e)) (he : P.underlying e = some (.int k)) (hc : P.cellsOf e = 1)
    (hv : Value.okWide P w r b0 t v) (h : DataW.Trod enc P w base spare held t v d p) :
    v = .slice none 0 0 ∨ ∃ (a : Addr) (len cap : Nat) (f : Nat → Int), v = .slice (some a) len cap ∧ base ≤ a.block ∧ len ≤ cap ∧ cap ≤ maxLen ∧ ∀ i, i < len → w.cell? (a.add i) = some (.int k (f i)) ∧ (Lit.int k (f i)).wf = true := by
  obtain ⟨a, len, cap, rfl⟩ := okWide_slice ht hv
  obtain ⟨fuel, hf⟩ := h
  rcases open_ints ht he hc hf with ⟨e, _⟩ | ⟨a', len', cap', zs, e, r1, r2, r3, r4, r5, r6, r7⟩
  · simp [Value.cells] at e
    obtain ⟨rfl, rfl, rfl⟩ := e
    exact .inl rfl
  · simp [Value.cells] at e
    obtain ⟨rfl, rfl, rfl⟩ := e
    have hle : len ≤ zs.length := by rw [r4]; split <;> omega
    refine .inr ⟨a', _, _, fun i => zs.getD i 0, rfl, r1, r2, r3, fun i hi => ⟨r6 i (by omega), r7 _ ?_⟩⟩
    have : i < zs.length := by omega
    simp [List.getD, List.getElem?_eq_getElem this]
end
end Go.Proofs.Ytemcbaacefjfnaa
