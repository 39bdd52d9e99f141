/- The law LinesDrains of package abugidalaw34 returns true for every input, and leaves its arguments as they are. No condition. -/
import Derived.Test.YtemcbaacefjfnaaLnDr
import Derived.Test.YtemcbaacefjfnaaRead
import Derived.Test.YtemcbaacefjfnaaLnRdC
set_option linter.unusedVariables false
namespace Go.Proofs.Ytemcbaacefjfnaa.linesDrains
open Go.ChangeShapes Go.WideShapes Go.ChangeAt Go.RowKit

theorem own : ownKnob Try.prog.godebug = none := by kernel_rfl
theorem laidOut : laidOutB Try.prog = true := by kernel_rfl

set_option maxRecDepth 100000 in
theorem lifted (os : Os) (started : os.Started) (H : Type) (enc : TypeId × Value → H) :
    ReturnsInHanded {} Try.checked os 4 .any (Rows.linesDrainsSpec.pre6 enc Try.prog Try.f4 Rows.linesDrainsRow.domain false) (Rows.linesDrainsSpec.post enc Try.prog Try.f4 false true false false) := by
  refine returnsInHanded_of_change (C := Try.checked) own started (by kernel_rfl) Try.func4
    (ChangeSpec.witness6 (enc := enc) (C := Try.checked) false ⟨#[], #[.slice none 0 0, .slice none 0 0], []⟩ 8 (by kernel_rfl) (by kernel_rfl) (by kernel_rfl) (by kernel_rfl)) ?_
  intro W base args ds gs before hval0 hW hcnd _
  have hval : ∀ (j : Nat) t v, Try.f4.params[j]? = some t → args[j]? = some v → Value.okWide Try.prog W .any base t v := hval0
  have hW' := hW
  obtain ⟨p, q, hA0, hV, rfl, hfz, hnd⟩ := hW
  have hA : DataW.TrodAll enc Try.prog W 0 (fun _ => true) true Try.f4.params.toList args.toList ds p := hA0
  rw [Try.params4] at hA hval
  obtain ⟨v0, vs0, d0, ds0, p0, q0, hargs, rfl, rfl, h0, r0⟩ := trodAll_cons hA
  obtain ⟨v1, vs1, d1, ds1, p1, q1, rfl, rfl, rfl, h1, r1⟩ := trodAll_cons r0
  obtain ⟨rfl, rfl, rfl⟩ := trodAll_nil r1
  obtain rfl : args = #[v0, v1] := by cases args; simp_all
  obtain ⟨rfl, rfl⟩ := trodVars_none hV
  have k0 := h0
  have lt0 : ∀ x ∈ p0, x.block < W.heap.size := by obtain ⟨m, hm⟩ := k0; exact DataW.trod_lt m _ _ _ hm
  have k1 := h1
  have lt1 : ∀ x ∈ p1, x.block < W.heap.size := by obtain ⟨m, hm⟩ := k1; exact DataW.trod_lt m _ _ _ hm
  obtain ⟨ao0, len0, c0, z0, rfl, hs0, he0, hl0, hm0⟩ := arg_script (hval 0 22 v0 rfl rfl) h0
  obtain ⟨ao1, len1, c1, z1, rfl, hl1, hm1, hz1⟩ := arg_row (k := .i64) Try.underlying37 Try.underlying3 (by kernel_rfl) (hval 1 37 v1 rfl rfl) h1
  clear hA0 hval0
  refine (linesDrains_walk ao0 len0 c0 z0 ao1 len1 c1 z1 W hs0 he0 hl0 hm0 (fun i hi => (hz1 i hi).imp fun a h => ⟨h.1, h.2.1, h.2.2.1⟩) (Nat.le_trans hl1 hm1)).mono fun e W' ⟨he, bel⟩ => ?_
  subst he
  exact ⟨_, rfl, _, _, _, [], _, [], hW', trodAll_mk1 (shut_bool Try.underlying4 _), (trodAll_cons_mk (Below.trod laidOut (by kernel_rfl) (of_decide_eq_true (by kernel_rfl)) k0 bel lt0) (trodAll_cons_mk (Below.trod laidOut (by kernel_rfl) (of_decide_eq_true (by kernel_rfl)) k1 bel lt1) trodAll_mk0)), rfl, bel.frame _, fun h => by cases h⟩

theorem over : Rows.linesDrainsRow.holds Try.pinned (OpenSpec.ofChange Rows.linesDrainsSpec) :=
  OpenClaim.holds_of_wide 4 Try.f4 rfl rfl rfl rfl rfl rfl rfl ⟨rfl, rfl, rfl, rfl, rfl⟩ rfl rfl rfl rfl rfl (by kernel_rfl) Try.func4 (by kernel_rfl)
    (of_decide_eq_true (by kernel_rfl)) (by unfold Func.isWrapper; first | (rw [if_pos (by decide +kernel)]; kernel_rfl) | (rw [if_neg (by decide +kernel)]; exact ⟨rfl, rfl⟩))
    (fun os started H enc _ => lifted os started H enc)

theorem proved : Rows.LinesDrainsSaid := over
#print axioms proved
end Go.Proofs.Ytemcbaacefjfnaa.linesDrains
namespace Go.Proofs.Ytemcbaacefjfnaa
/-- the row, under a short name -/
theorem linesDrains_holds : Rows.LinesDrainsSaid := linesDrains.proved
end Go.Proofs.Ytemcbaacefjfnaa
