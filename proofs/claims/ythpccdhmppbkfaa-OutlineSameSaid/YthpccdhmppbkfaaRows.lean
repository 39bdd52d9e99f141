/-
  No cell of these rows narrows 'for every input' (looked for: loops, veiled, ifaces, maps, wideKeys, modest, calm, conditions, laid).
  DERIVED. THE GIVEN ROWS OF THIS SEAT. 4 by the template 'for every input the law returns true; each argument reads behind the call as it read before'; 0 by the template 'total and deterministic' (their statements: YthpccdhmppbkfaaTotals.lean).
  GIVEN WITH THE SEED: the statements are not yours to turn. If you find one false, say at which input.
  Laid BY PROGRAM, IN A SANDBOX (cutbox-rows.mjs): the forced cells as the released guide's own fill.sh prints them over the translation 7fe93e82b00ec455… (all of the seat's roots in one cut). By AI agents, Wed Nov 11 2026. No macro, syntax, notation, axiom, sorry.
-/
import Derived.Test.YthpccdhmppbkfaaChecked
import GoSem.Claim
import GoSem.ClaimJoined
import GoSem.ClaimMapViews
import Derived.JoinedTies
import Derived.KernelRfl
namespace Go.Proofs.Ythpccdhmppbkfaa
/- THE CELL 'sum', in the pinned program and in every row, IS THE sha256 OF THE DUMP (.gsa) THAT YthpccdhmppbkfaaProg.lean LOADS. Nothing in Lean hashes anything: it is a label: what it is worth is what the hold of that sum in a sandbox is worth. -/
noncomputable def Try.pinned : Pinned := { name := "ythpccdhmppbkfaa", sum := "7fe93e82b00ec455023cef0d57d374edeaac3d8bd77a7b17264b0838abda567c", checked := Try.checked }
namespace Rows
def none {H : Type} : Left H := { results := [], args := [] }

/-- 'abugidalaw10.OutlineSame': WHATEVER THE INPUT: true; the input reads as it did. -/
def outlineSameSpec : ChangeSpec := { name := "outlineSame", fn := fun _ => fun
  | [d1, d2, d3] => { results := [.lit (.bool true)], args := [d1, d2, d3] }
  | _ => none }
def outlineSameRow : OpenClaim := { program := "ythpccdhmppbkfaa", sum := "7fe93e82b00ec455023cef0d57d374edeaac3d8bd77a7b17264b0838abda567c", func := "abugida/abugidalaw10.OutlineSame", spec := "outlineSame", unfollowed := true, recurses := true, apart := false }
def OutlineSameSaid : Prop := outlineSameRow.holds Try.pinned (OpenSpec.ofChange outlineSameSpec)

/-- ITS FALSE NEIGHBOUR: 'it returns false'. Refute it at one input. -/
def outlineSameWrong : ChangeSpec := { name := "outlineSame", fn := fun _ => fun
  | [d1, d2, d3] => { results := [.lit (.bool false)], args := [d1, d2, d3] }
  | _ => none }
def OutlineSameWrongFalsely : Prop := outlineSameRow.holds Try.pinned (OpenSpec.ofChange outlineSameWrong)

/-- 'abugidalaw10.OutlineDefault': WHATEVER THE INPUT: true; the input reads as it did. -/
def outlineDefaultSpec : ChangeSpec := { name := "outlineDefault", fn := fun _ => fun
  | [d] => { results := [.lit (.bool true)], args := [d] }
  | _ => none }
def outlineDefaultRow : OpenClaim := { program := "ythpccdhmppbkfaa", sum := "7fe93e82b00ec455023cef0d57d374edeaac3d8bd77a7b17264b0838abda567c", func := "abugida/abugidalaw10.OutlineDefault", spec := "outlineDefault", unfollowed := true, recurses := true, apart := false }
def OutlineDefaultSaid : Prop := outlineDefaultRow.holds Try.pinned (OpenSpec.ofChange outlineDefaultSpec)

/-- ITS FALSE NEIGHBOUR: 'it returns false'. Refute it at one input. -/
def outlineDefaultWrong : ChangeSpec := { name := "outlineDefault", fn := fun _ => fun
  | [d] => { results := [.lit (.bool false)], args := [d] }
  | _ => none }
def OutlineDefaultWrongFalsely : Prop := outlineDefaultRow.holds Try.pinned (OpenSpec.ofChange outlineDefaultWrong)

/-- 'abugidalaw10.OutlineAdds': WHATEVER THE INPUT: true; the input reads as it did. -/
def outlineAddsSpec : ChangeSpec := { name := "outlineAdds", fn := fun _ => fun
  | [d] => { results := [.lit (.bool true)], args := [d] }
  | _ => none }
def outlineAddsRow : OpenClaim := { program := "ythpccdhmppbkfaa", sum := "7fe93e82b00ec455023cef0d57d374edeaac3d8bd77a7b17264b0838abda567c", func := "abugida/abugidalaw10.OutlineAdds", spec := "outlineAdds", unfollowed := true, recurses := true, apart := false }
def OutlineAddsSaid : Prop := outlineAddsRow.holds Try.pinned (OpenSpec.ofChange outlineAddsSpec)

/-- ITS FALSE NEIGHBOUR: 'it returns false'. Refute it at one input. -/
def outlineAddsWrong : ChangeSpec := { name := "outlineAdds", fn := fun _ => fun
  | [d] => { results := [.lit (.bool false)], args := [d] }
  | _ => none }
def OutlineAddsWrongFalsely : Prop := outlineAddsRow.holds Try.pinned (OpenSpec.ofChange outlineAddsWrong)

/-- 'abugidalaw10.OutlineSizes': WHATEVER THE INPUT: true; the input reads as it did. -/
def outlineSizesSpec : ChangeSpec := { name := "outlineSizes", fn := fun _ => fun
  | [d1, d2] => { results := [.lit (.bool true)], args := [d1, d2] }
  | _ => none }
def outlineSizesRow : OpenClaim := { program := "ythpccdhmppbkfaa", sum := "7fe93e82b00ec455023cef0d57d374edeaac3d8bd77a7b17264b0838abda567c", func := "abugida/abugidalaw10.OutlineSizes", spec := "outlineSizes", unfollowed := true, recurses := true, apart := false }
def OutlineSizesSaid : Prop := outlineSizesRow.holds Try.pinned (OpenSpec.ofChange outlineSizesSpec)

/-- ITS FALSE NEIGHBOUR: 'it returns false'. Refute it at one input. -/
def outlineSizesWrong : ChangeSpec := { name := "outlineSizes", fn := fun _ => fun
  | [d1, d2] => { results := [.lit (.bool false)], args := [d1, d2] }
  | _ => none }
def OutlineSizesWrongFalsely : Prop := outlineSizesRow.holds Try.pinned (OpenSpec.ofChange outlineSizesWrong)

/- THE SECOND FORM. 'bulk': how many values and letters a reading holds, each counted each time it is reached (what is shared counts as often as it is met; a slice's spare places count too). A statement '..UptoSaid' is the law's where the arguments, and the package variables that the reading takes, are together of bulk at most 1048576: NARROWER than '..Said'. Prove '..Said' where nothing that the law and all that it calls make is longer than what came in: it says more and counts as full. Else prove '..UptoSaid'. A law counts once. -/
mutual
def uptoBulk {H : Type} : DataW H → Nat
  | .lit (.string bytes) => bytes.length + 1
  | .lit _ => 1
  | .nil => 1
  | .ptr d => uptoBulk d + 1
  | .slice elems spare => uptoBulkAll elems + uptoBulkAll spare + 1
  | .agg parts => uptoBulkAll parts + 1
  | .iface _ d => uptoBulk d + 1
  | .map entries => uptoBulkEntries entries + 1
  | .held _ => 1
def uptoBulkAll {H : Type} : List (DataW H) → Nat
  | [] => 0
  | d :: r => uptoBulk d + uptoBulkAll r
def uptoBulkEntries {H : Type} : List (Lit × DataW H) → Nat
  | [] => 0
  | x :: r => uptoBulkEntry x + uptoBulkEntries r
def uptoBulkEntry {H : Type} : Lit × DataW H → Nat
  | (.string bytes, d) => bytes.length + uptoBulk d + 1
  | (_, d) => uptoBulk d + 1
 end
def uptoSmall : (H : Type) → List (DataW H) → Bool := fun _ ds => decide (uptoBulkAll ds ≤ 1048576)
def OpenSpec.upto (s : _root_.Go.ChangeSpec) : _root_.Go.OpenSpec := { _root_.Go.OpenSpec.ofChange s with cond := some uptoSmall }

/-- 'abugidalaw10.OutlineSame', WHERE WHAT IT READS IS OF BULK AT MOST 1048576: true; the input reads as it did. -/
def outlineSameUptoRow : OpenClaim := { program := "ythpccdhmppbkfaa", sum := "7fe93e82b00ec455023cef0d57d374edeaac3d8bd77a7b17264b0838abda567c", func := "abugida/abugidalaw10.OutlineSame", spec := "outlineSame", unfollowed := true, recurses := true, apart := false, narrowed := true }
def OutlineSameUptoSaid : Prop := outlineSameUptoRow.holds Try.pinned (OpenSpec.upto outlineSameSpec)

/-- 'abugidalaw10.OutlineDefault', WHERE WHAT IT READS IS OF BULK AT MOST 1048576: true; the input reads as it did. -/
def outlineDefaultUptoRow : OpenClaim := { program := "ythpccdhmppbkfaa", sum := "7fe93e82b00ec455023cef0d57d374edeaac3d8bd77a7b17264b0838abda567c", func := "abugida/abugidalaw10.OutlineDefault", spec := "outlineDefault", unfollowed := true, recurses := true, apart := false, narrowed := true }
def OutlineDefaultUptoSaid : Prop := outlineDefaultUptoRow.holds Try.pinned (OpenSpec.upto outlineDefaultSpec)

/-- 'abugidalaw10.OutlineAdds', WHERE WHAT IT READS IS OF BULK AT MOST 1048576: true; the input reads as it did. -/
def outlineAddsUptoRow : OpenClaim := { program := "ythpccdhmppbkfaa", sum := "7fe93e82b00ec455023cef0d57d374edeaac3d8bd77a7b17264b0838abda567c", func := "abugida/abugidalaw10.OutlineAdds", spec := "outlineAdds", unfollowed := true, recurses := true, apart := false, narrowed := true }
def OutlineAddsUptoSaid : Prop := outlineAddsUptoRow.holds Try.pinned (OpenSpec.upto outlineAddsSpec)

/-- 'abugidalaw10.OutlineSizes', WHERE WHAT IT READS IS OF BULK AT MOST 1048576: true; the input reads as it did. -/
def outlineSizesUptoRow : OpenClaim := { program := "ythpccdhmppbkfaa", sum := "7fe93e82b00ec455023cef0d57d374edeaac3d8bd77a7b17264b0838abda567c", func := "abugida/abugidalaw10.OutlineSizes", spec := "outlineSizes", unfollowed := true, recurses := true, apart := false, narrowed := true }
def OutlineSizesUptoSaid : Prop := outlineSizesUptoRow.holds Try.pinned (OpenSpec.upto outlineSizesSpec)

end Rows
end Go.Proofs.Ythpccdhmppbkfaa
