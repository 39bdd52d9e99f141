/- Arguments that are read: a script. -/
import Derived.Test.YtemcbaacefjfnaaLnRdB
import Derived.Test.YtemcbaacefjfnaaLnG
set_option linter.unusedVariables false
namespace Go.Proofs.Ytemcbaacefjfnaa
open Go.ChangeShapes Go.WideShapes Go.ChangeAt Go.RowKit Go.Joins
theorem addr_block (a : Addr) (j : Nat) : (a.add j).block = a.block := by unfold Addr.add; split <;> rfl
theorem cell_lt {w : World} {a : Addr} {j : Nat} {u : Value} (h : w.cell? (a.add j) = some u) : a.block < w.heap.size := by
  unfold World.cell? at h
  rw [addr_block] at h
  rcases Nat.lt_or_ge a.block w.heap.size with hlt | hge
  · exact hlt
  · rw [Array.getElem?_eq_none hge] at h
    simp at h
section
variable {H : Type} {enc : TypeId × Value → H} {w : World} {base : Nat} {spare : Nat → Bool} {held : Bool} {r : Reach} {b0 : Nat} {v : Value} {d : DataW H} {p : List MemPlace}
theorem arg_tbf (hv : Value.okWide Try.prog w r b0 22 v) (h : DataW.Trod enc Try.prog w base spare held 22 v d p) :
    ∃ (oo : Option Addr) (ol oc : Nat) (fo : Nat → Tb), v = .slice oo ol oc ∧ ol ≤ oc ∧ oc ≤ maxLen ∧ (oo = none → oc = 0) ∧ ∀ i, i < ol → ∃ a, oo = some a ∧ a.block < w.heap.size ∧ w.cell? (a.add (i * 3)) = some (.bool (fo i).lost) ∧ w.cell? (a.add (i * 3 + 1)) = some (.int .i64 (fo i).cop) ∧ w.cell? (a.add (i * 3 + 2)) = some (.int .i64 (fo i).del) := by
  rcases arg_tbs Try.underlying22 Try.underlying43 (by kernel_rfl) rfl rfl rfl (by kernel_rfl) (by kernel_rfl) (by kernel_rfl) Try.underlying4 Try.underlying3 Try.underlying3 hv h with rfl | ⟨a, len, cap, f, rfl, h1, h2, h3, h4⟩
  · exact ⟨none, 0, 0, fun _ => ⟨false, 0, 0⟩, rfl, Nat.le_refl _, Nat.zero_le _, fun _ => rfl, fun i hi => absurd hi (by omega)⟩
  · exact ⟨some a, len, cap, fun i => ⟨(f i).1, (f i).2.1, (f i).2.2⟩, rfl, h2, h3, (fun e => by cases e), fun i hi => ⟨a, rfl, cell_lt (h4 i hi).1, h4 i hi⟩⟩
theorem arg_script (hv : Value.okWide Try.prog w r b0 22 v) (h : DataW.Trod enc Try.prog w base spare held 22 v d p) :
    ∃ (vo : Option Addr) (vl vc : Nat) (scr : List Tb), v = .slice vo vl vc ∧ SRA w (.slice vo vl vc) scr ∧ vl = scr.length ∧ vl ≤ vc ∧ vl ≤ maxLen := by
  obtain ⟨oo, ol, oc, fo, rfl, h1, h2, h0, h3⟩ := arg_tbf hv h
  refine ⟨oo, ol, oc, (List.range ol).map fo, rfl, ?_, by simp, h1, Nat.le_trans h1 h2⟩
  cases oo with
  | none =>
    have hc := h0 rfl
    obtain rfl : ol = 0 := by omega
    subst hc
    exact .inl ⟨rfl, rfl⟩
  | some a =>
    · refine .inr ⟨a, oc, by simp, fun hne => ?_, ?_⟩
      · have : 0 < ol := by
          rcases Nat.eq_zero_or_pos ol with h | h
          · subst h; exact absurd rfl hne
          · exact h
        obtain ⟨a', e, hlt, _⟩ := h3 0 this
        cases e; exact hlt
      · intro j u hu
        have hj : j < (flatT ((List.range ol).map fo)).length := (List.getElem?_eq_some_iff.1 hu).1
        rw [flatT_length, List.length_map, List.length_range] at hj
        have e : j = j / 3 * 3 + j % 3 := by omega
        have hi : j / 3 < ol := by omega
        obtain ⟨a', e2, hlt, c0, c1, c2⟩ := h3 (j / 3) hi
        cases e2
        generalize j / 3 = i at *
        rw [e] at hu
        rw [flatT_get _ _ _ (by simpa using hi) (Nat.mod_lt _ (by decide))] at hu
        simp only [List.getElem_map, List.getElem_range, Tb.cells] at hu
        have hm : j % 3 = 0 ∨ j % 3 = 1 ∨ j % 3 = 2 := by omega
        rcases hm with q | q | q <;> rw [q] at hu e <;> simp at hu <;> subst hu <;> subst e
        · simpa using c0
        · exact c1
        · exact c2
end
end Go.Proofs.Ytemcbaacefjfnaa
