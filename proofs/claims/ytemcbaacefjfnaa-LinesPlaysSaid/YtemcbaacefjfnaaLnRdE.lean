/- Arguments that are read: a row of acts. -/
import Derived.Test.YtemcbaacefjfnaaLnRdC
set_option linter.unusedVariables false
namespace Go.Proofs.Ytemcbaacefjfnaa
open Go.ChangeShapes Go.WideShapes Go.ChangeAt Go.RowKit Go.Joins
structure ActV where
  tk : Bool
  du : Int
  sr : Int
  ds : Int
  tx : ByteArray
deriving Inhabited
theorem arg_acts_raw {H : Type} {enc : TypeId × Value → H} {P : Program} {w : World} {base : Nat} {spare : Nat → Bool} {held : Bool} {fuel : Nat} {t e : TypeId} {cs : List Value} {x : DataW H × List MemPlace} {f0 f1 f2 g0 g1 g2 : Field} (ht : P.underlying t = some (.slice e)) (he : P.underlying e = some (.struct #[f0, f1, f2])) (hg : P.underlying f2.type = some (.struct #[g0, g1, g2])) (ce : P.cellsOf e = 5) (o0 : f0.offset = 0) (o1 : f1.offset = 1) (o2 : f2.offset = 2) (p0 : g0.offset = 0) (p1 : g1.offset = 1) (p2 : g2.offset = 2)
    (c0 : P.cellsOf f0.type = 1) (c1 : P.cellsOf f1.type = 1) (c2 : P.cellsOf f2.type = 3) (k0 : P.cellsOf g0.type = 1) (k1 : P.cellsOf g1.type = 1) (k2 : P.cellsOf g2.type = 1) (u0 : P.underlying f0.type = some .bool) (u1 : P.underlying f1.type = some (.int .i64)) (v0 : P.underlying g0.type = some (.int .i64)) (v1 : P.underlying g1.type = some (.int .i64)) (v2 : P.underlying g2.type = some .string)
    (h : DataW.trod enc P w base spare held fuel t cs = some x) :
    cs = [.slice none 0 0] ∨ ∃ (a : Addr) (len cap : Nat) (f : Nat → ActV), cs = [.slice (some a) len cap] ∧ base ≤ a.block ∧ len ≤ cap ∧ cap ≤ maxLen ∧
      ∀ i, i < len → w.cell? (a.add (i * 5)) = some (.bool (f i).tk) ∧ w.cell? (a.add (i * 5 + 1)) = some (.int .i64 (f i).du) ∧ w.cell? (a.add (i * 5 + 2)) = some (.int .i64 (f i).sr) ∧ w.cell? (a.add (i * 5 + 3)) = some (.int .i64 (f i).ds) ∧ w.cell? (a.add (i * 5 + 4)) = some (.string (f i).tx) := by
  rcases Deep.open_slice ht h with h0 | ⟨a, len, cap, m, n, D, Pl, rfl, hb, hl, hm, hmm, rfl, hx⟩
  · exact Or.inl h0.1
  right
  have hlm : len ≤ m := by rw [hmm]; split <;> omega
  have each : ∀ i, i < len → ∃ q : ActV, w.cell? (a.add (i * 5)) = some (.bool q.tk) ∧ w.cell? (a.add (i * 5 + 1)) = some (.int .i64 q.du) ∧ w.cell? (a.add (i * 5 + 2)) = some (.int .i64 q.sr) ∧ w.cell? (a.add (i * 5 + 3)) = some (.int .i64 q.ds) ∧ w.cell? (a.add (i * 5 + 4)) = some (.string q.tx) := by
    intro i hi
    obtain ⟨cs', h1, h2⟩ := hx i (by omega)
    rw [ce] at h1
    obtain ⟨_, hlen, hcell⟩ := World.cells?_some h1
    obtain ⟨xs, k, hk, hxy, _, hxl, hf⟩ := DataW.trod_struct he h2
    match xs, hxl, cs', hlen with
    | [y0, y1, y2], _, [w0, w1, w2, w3, w4], _ =>
      have q0 := hf 0 f0 rfl
      have q1 := hf 1 f1 rfl
      have q2 := hf 2 f2 rfl
      simp [o0, o1, o2, c0, c1, c2] at q0 q1 q2
      obtain ⟨b, hb0, _⟩ := DataW.trod_bool u0 q0
      obtain ⟨z1, hz1, _⟩ := DataW.trod_int u1 q1
      obtain ⟨ys, k', hk', hxy', _, hxl', hf'⟩ := DataW.trod_struct hg q2
      match ys, hxl' with
      | [x0, x1, x2], _ =>
        have r0 := hf' 0 g0 rfl
        have r1 := hf' 1 g1 rfl
        have r2 := hf' 2 g2 rfl
        simp [p0, p1, p2, k0, k1, k2] at r0 r1 r2
        obtain ⟨z2, hz2, _⟩ := DataW.trod_int v0 r0
        obtain ⟨z3, hz3, _⟩ := DataW.trod_int v1 r1
        obtain ⟨z4, hz4, _⟩ := DataW.trod_string v2 r2
        simp at hb0 hz1 hz2 hz3 hz4
        have e0 := hcell 0 (by omega)
        have e1 := hcell 1 (by omega)
        have e2 := hcell 2 (by omega)
        have e3 := hcell 3 (by omega)
        have e4 := hcell 4 (by omega)
        rw [Deep.add_add] at e0 e1 e2 e3 e4
        exact ⟨⟨b, z1, z2, z3, z4⟩, by simpa [hb0] using e0, by simpa [hz1] using e1, by simpa [hz2] using e2, by simpa [hz3] using e3, by simpa [hz4] using e4⟩
  obtain ⟨q, hq⟩ := Deep.choose_lt each
  exact ⟨a, len, cap, q, rfl, hb, hl, hm, hq⟩
theorem arg_acts {H : Type} {enc : TypeId × Value → H} {w : World} {base : Nat} {spare : Nat → Bool} {held : Bool} {r : Reach} {v : Value} {b0 : Nat} {d : DataW H} {p : List MemPlace}
    (hv : Value.okWide Try.prog w r b0 23 v) (h : DataW.Trod enc Try.prog w base spare held 23 v d p) :
    ∃ (oo : Option Addr) (ol oc : Nat) (f : Nat → ActV), v = .slice oo ol oc ∧ ol ≤ oc ∧ oc ≤ maxLen ∧ ∀ i, i < ol → ∃ a, oo = some a ∧ a.block < w.heap.size ∧ w.cell? (a.add (i * 5)) = some (.bool (f i).tk) ∧ w.cell? (a.add (i * 5 + 1)) = some (.int .i64 (f i).du) ∧ w.cell? (a.add (i * 5 + 2)) = some (.int .i64 (f i).sr) ∧ w.cell? (a.add (i * 5 + 3)) = some (.int .i64 (f i).ds) ∧ w.cell? (a.add (i * 5 + 4)) = some (.string (f i).tx) := by
  obtain ⟨a, len, cap, rfl⟩ := okWide_slice Try.underlying23 hv
  obtain ⟨fuel, hf⟩ := h
  rcases arg_acts_raw Try.underlying23 Try.underlying33 Try.underlying31 (by kernel_rfl) rfl rfl rfl rfl rfl rfl (by kernel_rfl) (by kernel_rfl) (by kernel_rfl) (by kernel_rfl) (by kernel_rfl) (by kernel_rfl) Try.underlying4 Try.underlying3 Try.underlying3 Try.underlying3 Try.underlying9 hf with e | ⟨a', len', cap', f, e, h1, h2, h3, h4⟩
  · simp [Value.cells] at e
    obtain ⟨rfl, rfl, rfl⟩ := e
    exact ⟨none, 0, 0, fun _ => ⟨false, 0, 0, 0, ⟨#[]⟩⟩, rfl, Nat.le_refl _, Nat.zero_le _, fun i hi => absurd hi (by omega)⟩
  · simp [Value.cells] at e
    obtain ⟨rfl, rfl, rfl⟩ := e
    exact ⟨some a', _, _, f, rfl, h2, h3, fun i hi => ⟨a', rfl, cell_lt (h4 i hi).1, h4 i hi⟩⟩
end Go.Proofs.Ytemcbaacefjfnaa
