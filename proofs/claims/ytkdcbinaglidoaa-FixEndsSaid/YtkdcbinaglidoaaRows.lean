/-
  No cell of these rows narrows 'for every input' (looked for: loops, veiled, ifaces, maps, wideKeys, modest, calm, conditions, laid).
  DERIVED. THE GIVEN ROWS OF THIS SEAT. 8 by the template 'for every input the law returns true; each argument reads behind the call as it read before'; 0 by the template 'total and deterministic' (their statements: YtkdcbinaglidoaaTotals.lean).
  GIVEN WITH THE SEED: the statements are not yours to turn. If you find one false, say at which input.
  Laid BY PROGRAM, IN A SANDBOX (cutbox-rows.mjs): the forced cells as the released guide's own fill.sh prints them over the translation ef3d2736fd15c15c… (all of the seat's roots in one cut). By AI agents, Wed Nov 11 2026. No macro, syntax, notation, axiom, sorry.
-/
import Derived.Test.YtkdcbinaglidoaaChecked
import GoSem.Claim
import GoSem.ClaimJoined
import GoSem.ClaimMapViews
import Derived.JoinedTies
import Derived.KernelRfl
namespace Go.Proofs.Ytkdcbinaglidoaa
/- THE CELL 'sum', in the pinned program and in every row, IS THE sha256 OF THE DUMP (.gsa) THAT YtkdcbinaglidoaaProg.lean LOADS. Nothing in Lean hashes anything: it is a label: what it is worth is what the hold of that sum in a sandbox is worth. -/
noncomputable def Try.pinned : Pinned := { name := "ytkdcbinaglidoaa", sum := "ef3d2736fd15c15cab8aa5a27f23b93068cc94bd5970bf721db9dc38bc980fe2", checked := Try.checked }
namespace Rows
def none {H : Type} : Left H := { results := [], args := [] }

/-- 'abugidalaw01.FixRounds': WHATEVER THE INPUT: true; the input reads as it did. -/
def fixRoundsSpec : ChangeSpec := { name := "fixRounds", fn := fun _ => fun
  | [d1, d2] => { results := [.lit (.bool true)], args := [d1, d2] }
  | _ => none }
def fixRoundsRow : OpenClaim := { program := "ytkdcbinaglidoaa", sum := "ef3d2736fd15c15cab8aa5a27f23b93068cc94bd5970bf721db9dc38bc980fe2", func := "abugida/abugidalaw01.FixRounds", spec := "fixRounds", unfollowed := true, recurses := true, apart := false }
def FixRoundsSaid : Prop := fixRoundsRow.holds Try.pinned (OpenSpec.ofChange fixRoundsSpec)

/-- ITS FALSE NEIGHBOUR: 'it returns false'. Refute it at one input. -/
def fixRoundsWrong : ChangeSpec := { name := "fixRounds", fn := fun _ => fun
  | [d1, d2] => { results := [.lit (.bool false)], args := [d1, d2] }
  | _ => none }
def FixRoundsWrongFalsely : Prop := fixRoundsRow.holds Try.pinned (OpenSpec.ofChange fixRoundsWrong)

/-- 'abugidalaw01.FixNear': WHATEVER THE INPUT: true; the input reads as it did. -/
def fixNearSpec : ChangeSpec := { name := "fixNear", fn := fun _ => fun
  | [d1, d2, d3] => { results := [.lit (.bool true)], args := [d1, d2, d3] }
  | _ => none }
def fixNearRow : OpenClaim := { program := "ytkdcbinaglidoaa", sum := "ef3d2736fd15c15cab8aa5a27f23b93068cc94bd5970bf721db9dc38bc980fe2", func := "abugida/abugidalaw01.FixNear", spec := "fixNear", unfollowed := true, recurses := true, apart := false }
def FixNearSaid : Prop := fixNearRow.holds Try.pinned (OpenSpec.ofChange fixNearSpec)

/-- ITS FALSE NEIGHBOUR: 'it returns false'. Refute it at one input. -/
def fixNearWrong : ChangeSpec := { name := "fixNear", fn := fun _ => fun
  | [d1, d2, d3] => { results := [.lit (.bool false)], args := [d1, d2, d3] }
  | _ => none }
def FixNearWrongFalsely : Prop := fixNearRow.holds Try.pinned (OpenSpec.ofChange fixNearWrong)

/-- 'abugidalaw01.FixMuls': WHATEVER THE INPUT: true; the input reads as it did. -/
def fixMulsSpec : ChangeSpec := { name := "fixMuls", fn := fun _ => fun
  | [d1, d2, d3] => { results := [.lit (.bool true)], args := [d1, d2, d3] }
  | _ => none }
def fixMulsRow : OpenClaim := { program := "ytkdcbinaglidoaa", sum := "ef3d2736fd15c15cab8aa5a27f23b93068cc94bd5970bf721db9dc38bc980fe2", func := "abugida/abugidalaw01.FixMuls", spec := "fixMuls", unfollowed := true, recurses := true, apart := false }
def FixMulsSaid : Prop := fixMulsRow.holds Try.pinned (OpenSpec.ofChange fixMulsSpec)

/-- ITS FALSE NEIGHBOUR: 'it returns false'. Refute it at one input. -/
def fixMulsWrong : ChangeSpec := { name := "fixMuls", fn := fun _ => fun
  | [d1, d2, d3] => { results := [.lit (.bool false)], args := [d1, d2, d3] }
  | _ => none }
def FixMulsWrongFalsely : Prop := fixMulsRow.holds Try.pinned (OpenSpec.ofChange fixMulsWrong)

/-- 'abugidalaw01.FixTimes': WHATEVER THE INPUT: true; the input reads as it did. -/
def fixTimesSpec : ChangeSpec := { name := "fixTimes", fn := fun _ => fun
  | [d1, d2] => { results := [.lit (.bool true)], args := [d1, d2] }
  | _ => none }
def fixTimesRow : OpenClaim := { program := "ytkdcbinaglidoaa", sum := "ef3d2736fd15c15cab8aa5a27f23b93068cc94bd5970bf721db9dc38bc980fe2", func := "abugida/abugidalaw01.FixTimes", spec := "fixTimes", unfollowed := true, recurses := true, apart := false }
def FixTimesSaid : Prop := fixTimesRow.holds Try.pinned (OpenSpec.ofChange fixTimesSpec)

/-- ITS FALSE NEIGHBOUR: 'it returns false'. Refute it at one input. -/
def fixTimesWrong : ChangeSpec := { name := "fixTimes", fn := fun _ => fun
  | [d1, d2] => { results := [.lit (.bool false)], args := [d1, d2] }
  | _ => none }
def FixTimesWrongFalsely : Prop := fixTimesRow.holds Try.pinned (OpenSpec.ofChange fixTimesWrong)

/-- 'abugidalaw01.FixScalars': WHATEVER THE INPUT: true; the input reads as it did. -/
def fixScalarsSpec : ChangeSpec := { name := "fixScalars", fn := fun _ => fun
  | [d1, d2] => { results := [.lit (.bool true)], args := [d1, d2] }
  | _ => none }
def fixScalarsRow : OpenClaim := { program := "ytkdcbinaglidoaa", sum := "ef3d2736fd15c15cab8aa5a27f23b93068cc94bd5970bf721db9dc38bc980fe2", func := "abugida/abugidalaw01.FixScalars", spec := "fixScalars", unfollowed := true, recurses := true, apart := false }
def FixScalarsSaid : Prop := fixScalarsRow.holds Try.pinned (OpenSpec.ofChange fixScalarsSpec)

/-- ITS FALSE NEIGHBOUR: 'it returns false'. Refute it at one input. -/
def fixScalarsWrong : ChangeSpec := { name := "fixScalars", fn := fun _ => fun
  | [d1, d2] => { results := [.lit (.bool false)], args := [d1, d2] }
  | _ => none }
def FixScalarsWrongFalsely : Prop := fixScalarsRow.holds Try.pinned (OpenSpec.ofChange fixScalarsWrong)

/-- 'abugidalaw01.FixParts': WHATEVER THE INPUT: true; the input reads as it did. -/
def fixPartsSpec : ChangeSpec := { name := "fixParts", fn := fun _ => fun
  | [d1, d2, d3] => { results := [.lit (.bool true)], args := [d1, d2, d3] }
  | _ => none }
def fixPartsRow : OpenClaim := { program := "ytkdcbinaglidoaa", sum := "ef3d2736fd15c15cab8aa5a27f23b93068cc94bd5970bf721db9dc38bc980fe2", func := "abugida/abugidalaw01.FixParts", spec := "fixParts", unfollowed := true, recurses := true, apart := false }
def FixPartsSaid : Prop := fixPartsRow.holds Try.pinned (OpenSpec.ofChange fixPartsSpec)

/-- ITS FALSE NEIGHBOUR: 'it returns false'. Refute it at one input. -/
def fixPartsWrong : ChangeSpec := { name := "fixParts", fn := fun _ => fun
  | [d1, d2, d3] => { results := [.lit (.bool false)], args := [d1, d2, d3] }
  | _ => none }
def FixPartsWrongFalsely : Prop := fixPartsRow.holds Try.pinned (OpenSpec.ofChange fixPartsWrong)

/-- 'abugidalaw01.FixLines': WHATEVER THE INPUT: true; the input reads as it did. -/
def fixLinesSpec : ChangeSpec := { name := "fixLines", fn := fun _ => fun
  | [d1, d2, d3] => { results := [.lit (.bool true)], args := [d1, d2, d3] }
  | _ => none }
def fixLinesRow : OpenClaim := { program := "ytkdcbinaglidoaa", sum := "ef3d2736fd15c15cab8aa5a27f23b93068cc94bd5970bf721db9dc38bc980fe2", func := "abugida/abugidalaw01.FixLines", spec := "fixLines", unfollowed := true, recurses := true, apart := false }
def FixLinesSaid : Prop := fixLinesRow.holds Try.pinned (OpenSpec.ofChange fixLinesSpec)

/-- ITS FALSE NEIGHBOUR: 'it returns false'. Refute it at one input. -/
def fixLinesWrong : ChangeSpec := { name := "fixLines", fn := fun _ => fun
  | [d1, d2, d3] => { results := [.lit (.bool false)], args := [d1, d2, d3] }
  | _ => none }
def FixLinesWrongFalsely : Prop := fixLinesRow.holds Try.pinned (OpenSpec.ofChange fixLinesWrong)

/-- 'abugidalaw01.FixEnds': WHATEVER THE INPUT: true; the input reads as it did. -/
def fixEndsSpec : ChangeSpec := { name := "fixEnds", fn := fun _ => fun
  | [d1, d2, d3] => { results := [.lit (.bool true)], args := [d1, d2, d3] }
  | _ => none }
def fixEndsRow : OpenClaim := { program := "ytkdcbinaglidoaa", sum := "ef3d2736fd15c15cab8aa5a27f23b93068cc94bd5970bf721db9dc38bc980fe2", func := "abugida/abugidalaw01.FixEnds", spec := "fixEnds", unfollowed := true, recurses := true, apart := false }
def FixEndsSaid : Prop := fixEndsRow.holds Try.pinned (OpenSpec.ofChange fixEndsSpec)

/-- ITS FALSE NEIGHBOUR: 'it returns false'. Refute it at one input. -/
def fixEndsWrong : ChangeSpec := { name := "fixEnds", fn := fun _ => fun
  | [d1, d2, d3] => { results := [.lit (.bool false)], args := [d1, d2, d3] }
  | _ => none }
def FixEndsWrongFalsely : Prop := fixEndsRow.holds Try.pinned (OpenSpec.ofChange fixEndsWrong)

/- THE SECOND FORM. 'bulk': how many values and letters a reading holds, each counted each time it is reached (what is shared counts as often as it is met; a slice's spare places count too). A statement '..UptoSaid' is the law's where the arguments, and the package variables that the reading takes, are together of bulk at most 1048576: NARROWER than '..Said'. Prove '..Said' where nothing that the law and all that it calls make is longer than what came in: it says more and counts as full. Else prove '..UptoSaid'. A law counts once. -/
mutual
def uptoBulk {H : Type} : DataW H → Nat
  | .lit (.string bytes) => bytes.length + 1
  | .lit _ => 1
  | .nil => 1
  | .ptr d => uptoBulk d + 1
  | .slice elems spare => uptoBulkAll elems + uptoBulkAll spare + 1
  | .agg parts => uptoBulkAll parts + 1
  | .iface _ d => uptoBulk d + 1
  | .map entries => uptoBulkEntries entries + 1
  | .held _ => 1
def uptoBulkAll {H : Type} : List (DataW H) → Nat
  | [] => 0
  | d :: r => uptoBulk d + uptoBulkAll r
def uptoBulkEntries {H : Type} : List (Lit × DataW H) → Nat
  | [] => 0
  | x :: r => uptoBulkEntry x + uptoBulkEntries r
def uptoBulkEntry {H : Type} : Lit × DataW H → Nat
  | (.string bytes, d) => bytes.length + uptoBulk d + 1
  | (_, d) => uptoBulk d + 1
 end
def uptoSmall : (H : Type) → List (DataW H) → Bool := fun _ ds => decide (uptoBulkAll ds ≤ 1048576)
def OpenSpec.upto (s : _root_.Go.ChangeSpec) : _root_.Go.OpenSpec := { _root_.Go.OpenSpec.ofChange s with cond := some uptoSmall }

/-- 'abugidalaw01.FixRounds', WHERE WHAT IT READS IS OF BULK AT MOST 1048576: true; the input reads as it did. -/
def fixRoundsUptoRow : OpenClaim := { program := "ytkdcbinaglidoaa", sum := "ef3d2736fd15c15cab8aa5a27f23b93068cc94bd5970bf721db9dc38bc980fe2", func := "abugida/abugidalaw01.FixRounds", spec := "fixRounds", unfollowed := true, recurses := true, apart := false, narrowed := true }
def FixRoundsUptoSaid : Prop := fixRoundsUptoRow.holds Try.pinned (OpenSpec.upto fixRoundsSpec)

/-- 'abugidalaw01.FixNear', WHERE WHAT IT READS IS OF BULK AT MOST 1048576: true; the input reads as it did. -/
def fixNearUptoRow : OpenClaim := { program := "ytkdcbinaglidoaa", sum := "ef3d2736fd15c15cab8aa5a27f23b93068cc94bd5970bf721db9dc38bc980fe2", func := "abugida/abugidalaw01.FixNear", spec := "fixNear", unfollowed := true, recurses := true, apart := false, narrowed := true }
def FixNearUptoSaid : Prop := fixNearUptoRow.holds Try.pinned (OpenSpec.upto fixNearSpec)

/-- 'abugidalaw01.FixMuls', WHERE WHAT IT READS IS OF BULK AT MOST 1048576: true; the input reads as it did. -/
def fixMulsUptoRow : OpenClaim := { program := "ytkdcbinaglidoaa", sum := "ef3d2736fd15c15cab8aa5a27f23b93068cc94bd5970bf721db9dc38bc980fe2", func := "abugida/abugidalaw01.FixMuls", spec := "fixMuls", unfollowed := true, recurses := true, apart := false, narrowed := true }
def FixMulsUptoSaid : Prop := fixMulsUptoRow.holds Try.pinned (OpenSpec.upto fixMulsSpec)

/-- 'abugidalaw01.FixTimes', WHERE WHAT IT READS IS OF BULK AT MOST 1048576: true; the input reads as it did. -/
def fixTimesUptoRow : OpenClaim := { program := "ytkdcbinaglidoaa", sum := "ef3d2736fd15c15cab8aa5a27f23b93068cc94bd5970bf721db9dc38bc980fe2", func := "abugida/abugidalaw01.FixTimes", spec := "fixTimes", unfollowed := true, recurses := true, apart := false, narrowed := true }
def FixTimesUptoSaid : Prop := fixTimesUptoRow.holds Try.pinned (OpenSpec.upto fixTimesSpec)

/-- 'abugidalaw01.FixScalars', WHERE WHAT IT READS IS OF BULK AT MOST 1048576: true; the input reads as it did. -/
def fixScalarsUptoRow : OpenClaim := { program := "ytkdcbinaglidoaa", sum := "ef3d2736fd15c15cab8aa5a27f23b93068cc94bd5970bf721db9dc38bc980fe2", func := "abugida/abugidalaw01.FixScalars", spec := "fixScalars", unfollowed := true, recurses := true, apart := false, narrowed := true }
def FixScalarsUptoSaid : Prop := fixScalarsUptoRow.holds Try.pinned (OpenSpec.upto fixScalarsSpec)

/-- 'abugidalaw01.FixParts', WHERE WHAT IT READS IS OF BULK AT MOST 1048576: true; the input reads as it did. -/
def fixPartsUptoRow : OpenClaim := { program := "ytkdcbinaglidoaa", sum := "ef3d2736fd15c15cab8aa5a27f23b93068cc94bd5970bf721db9dc38bc980fe2", func := "abugida/abugidalaw01.FixParts", spec := "fixParts", unfollowed := true, recurses := true, apart := false, narrowed := true }
def FixPartsUptoSaid : Prop := fixPartsUptoRow.holds Try.pinned (OpenSpec.upto fixPartsSpec)

/-- 'abugidalaw01.FixLines', WHERE WHAT IT READS IS OF BULK AT MOST 1048576: true; the input reads as it did. -/
def fixLinesUptoRow : OpenClaim := { program := "ytkdcbinaglidoaa", sum := "ef3d2736fd15c15cab8aa5a27f23b93068cc94bd5970bf721db9dc38bc980fe2", func := "abugida/abugidalaw01.FixLines", spec := "fixLines", unfollowed := true, recurses := true, apart := false, narrowed := true }
def FixLinesUptoSaid : Prop := fixLinesUptoRow.holds Try.pinned (OpenSpec.upto fixLinesSpec)

/-- 'abugidalaw01.FixEnds', WHERE WHAT IT READS IS OF BULK AT MOST 1048576: true; the input reads as it did. -/
def fixEndsUptoRow : OpenClaim := { program := "ytkdcbinaglidoaa", sum := "ef3d2736fd15c15cab8aa5a27f23b93068cc94bd5970bf721db9dc38bc980fe2", func := "abugida/abugidalaw01.FixEnds", spec := "fixEnds", unfollowed := true, recurses := true, apart := false, narrowed := true }
def FixEndsUptoSaid : Prop := fixEndsUptoRow.holds Try.pinned (OpenSpec.upto fixEndsSpec)

end Rows
end Go.Proofs.Ytkdcbinaglidoaa
