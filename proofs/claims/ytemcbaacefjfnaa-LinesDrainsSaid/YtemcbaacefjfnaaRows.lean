/-
  No cell of these rows narrows 'for every input' (looked for: loops, veiled, ifaces, maps, wideKeys, modest, calm, conditions, laid).
  DERIVED. THE GIVEN ROWS OF THIS SEAT. 7 by the template 'for every input the law returns true; each argument reads behind the call as it read before'; 0 by the template 'total and deterministic' (their statements: YtemcbaacefjfnaaTotals.lean).
  GIVEN WITH THE SEED: the statements are not yours to turn. If you find one false, say at which input.
  Laid BY PROGRAM, IN A SANDBOX (cutbox-rows.mjs): the forced cells as the released guide's own fill.sh prints them over the translation 5746f811cd76c693… (all of the seat's roots in one cut). By AI agents, Wed Nov 11 2026. No macro, syntax, notation, axiom, sorry.
-/
import Derived.Test.YtemcbaacefjfnaaChecked
import GoSem.Claim
import GoSem.ClaimJoined
import GoSem.ClaimMapViews
import Derived.JoinedTies
import Derived.KernelRfl
namespace Go.Proofs.Ytemcbaacefjfnaa
/- THE CELL 'sum', in the pinned program and in every row, IS THE sha256 OF THE DUMP (.gsa) THAT YtemcbaacefjfnaaProg.lean LOADS. Nothing in Lean hashes anything: it is a label: what it is worth is what the hold of that sum in a sandbox is worth. -/
noncomputable def Try.pinned : Pinned := { name := "ytemcbaacefjfnaa", sum := "5746f811cd76c693e292897a7b9089b3d6674a2aa7d110f34d5141703bb88a31", checked := Try.checked }
namespace Rows
def none {H : Type} : Left H := { results := [], args := [] }

/-- 'abugidalaw34.LinesPlays': WHATEVER THE INPUT: true; the input reads as it did. -/
def linesPlaysSpec : ChangeSpec := { name := "linesPlays", fn := fun _ => fun
  | [d1, d2, d3] => { results := [.lit (.bool true)], args := [d1, d2, d3] }
  | _ => none }
def linesPlaysRow : OpenClaim := { program := "ytemcbaacefjfnaa", sum := "5746f811cd76c693e292897a7b9089b3d6674a2aa7d110f34d5141703bb88a31", func := "abugida/abugidalaw34.LinesPlays", spec := "linesPlays", unfollowed := true, recurses := true, apart := false }
def LinesPlaysSaid : Prop := linesPlaysRow.holds Try.pinned (OpenSpec.ofChange linesPlaysSpec)

/-- ITS FALSE NEIGHBOUR: 'it returns false'. Refute it at one input. -/
def linesPlaysWrong : ChangeSpec := { name := "linesPlays", fn := fun _ => fun
  | [d1, d2, d3] => { results := [.lit (.bool false)], args := [d1, d2, d3] }
  | _ => none }
def LinesPlaysWrongFalsely : Prop := linesPlaysRow.holds Try.pinned (OpenSpec.ofChange linesPlaysWrong)

/-- 'abugidalaw34.LinesDrains': WHATEVER THE INPUT: true; the input reads as it did. -/
def linesDrainsSpec : ChangeSpec := { name := "linesDrains", fn := fun _ => fun
  | [d1, d2] => { results := [.lit (.bool true)], args := [d1, d2] }
  | _ => none }
def linesDrainsRow : OpenClaim := { program := "ytemcbaacefjfnaa", sum := "5746f811cd76c693e292897a7b9089b3d6674a2aa7d110f34d5141703bb88a31", func := "abugida/abugidalaw34.LinesDrains", spec := "linesDrains", unfollowed := true, recurses := true, apart := false }
def LinesDrainsSaid : Prop := linesDrainsRow.holds Try.pinned (OpenSpec.ofChange linesDrainsSpec)

/-- ITS FALSE NEIGHBOUR: 'it returns false'. Refute it at one input. -/
def linesDrainsWrong : ChangeSpec := { name := "linesDrains", fn := fun _ => fun
  | [d1, d2] => { results := [.lit (.bool false)], args := [d1, d2] }
  | _ => none }
def LinesDrainsWrongFalsely : Prop := linesDrainsRow.holds Try.pinned (OpenSpec.ofChange linesDrainsWrong)

/-- 'abugidalaw34.LinesAlone': WHATEVER THE INPUT: true; the input reads as it did. -/
def linesAloneSpec : ChangeSpec := { name := "linesAlone", fn := fun _ => fun
  | [d] => { results := [.lit (.bool true)], args := [d] }
  | _ => none }
def linesAloneRow : OpenClaim := { program := "ytemcbaacefjfnaa", sum := "5746f811cd76c693e292897a7b9089b3d6674a2aa7d110f34d5141703bb88a31", func := "abugida/abugidalaw34.LinesAlone", spec := "linesAlone", unfollowed := true, recurses := true, apart := false }
def LinesAloneSaid : Prop := linesAloneRow.holds Try.pinned (OpenSpec.ofChange linesAloneSpec)

/-- ITS FALSE NEIGHBOUR: 'it returns false'. Refute it at one input. -/
def linesAloneWrong : ChangeSpec := { name := "linesAlone", fn := fun _ => fun
  | [d] => { results := [.lit (.bool false)], args := [d] }
  | _ => none }
def LinesAloneWrongFalsely : Prop := linesAloneRow.holds Try.pinned (OpenSpec.ofChange linesAloneWrong)

/-- 'abugidalaw34.LinesNodes': WHATEVER THE INPUT: true; the input reads as it did. -/
def linesNodesSpec : ChangeSpec := { name := "linesNodes", fn := fun _ => fun
  | [d1, d2, d3] => { results := [.lit (.bool true)], args := [d1, d2, d3] }
  | _ => none }
def linesNodesRow : OpenClaim := { program := "ytemcbaacefjfnaa", sum := "5746f811cd76c693e292897a7b9089b3d6674a2aa7d110f34d5141703bb88a31", func := "abugida/abugidalaw34.LinesNodes", spec := "linesNodes", unfollowed := true, recurses := true, apart := false }
def LinesNodesSaid : Prop := linesNodesRow.holds Try.pinned (OpenSpec.ofChange linesNodesSpec)

/-- ITS FALSE NEIGHBOUR: 'it returns false'. Refute it at one input. -/
def linesNodesWrong : ChangeSpec := { name := "linesNodes", fn := fun _ => fun
  | [d1, d2, d3] => { results := [.lit (.bool false)], args := [d1, d2, d3] }
  | _ => none }
def LinesNodesWrongFalsely : Prop := linesNodesRow.holds Try.pinned (OpenSpec.ofChange linesNodesWrong)

/-- 'abugidalaw34.LinesOwn': WHATEVER THE INPUT: true; the input reads as it did. -/
def linesOwnSpec : ChangeSpec := { name := "linesOwn", fn := fun _ => fun
  | [d1, d2, d3] => { results := [.lit (.bool true)], args := [d1, d2, d3] }
  | _ => none }
def linesOwnRow : OpenClaim := { program := "ytemcbaacefjfnaa", sum := "5746f811cd76c693e292897a7b9089b3d6674a2aa7d110f34d5141703bb88a31", func := "abugida/abugidalaw34.LinesOwn", spec := "linesOwn", unfollowed := true, recurses := true, apart := false }
def LinesOwnSaid : Prop := linesOwnRow.holds Try.pinned (OpenSpec.ofChange linesOwnSpec)

/-- ITS FALSE NEIGHBOUR: 'it returns false'. Refute it at one input. -/
def linesOwnWrong : ChangeSpec := { name := "linesOwn", fn := fun _ => fun
  | [d1, d2, d3] => { results := [.lit (.bool false)], args := [d1, d2, d3] }
  | _ => none }
def LinesOwnWrongFalsely : Prop := linesOwnRow.holds Try.pinned (OpenSpec.ofChange linesOwnWrong)

/-- 'abugidalaw34.LinesLate': WHATEVER THE INPUT: true; the input reads as it did. -/
def linesLateSpec : ChangeSpec := { name := "linesLate", fn := fun _ => fun
  | [d1, d2] => { results := [.lit (.bool true)], args := [d1, d2] }
  | _ => none }
def linesLateRow : OpenClaim := { program := "ytemcbaacefjfnaa", sum := "5746f811cd76c693e292897a7b9089b3d6674a2aa7d110f34d5141703bb88a31", func := "abugida/abugidalaw34.LinesLate", spec := "linesLate", unfollowed := true, recurses := true, apart := false }
def LinesLateSaid : Prop := linesLateRow.holds Try.pinned (OpenSpec.ofChange linesLateSpec)

/-- ITS FALSE NEIGHBOUR: 'it returns false'. Refute it at one input. -/
def linesLateWrong : ChangeSpec := { name := "linesLate", fn := fun _ => fun
  | [d1, d2] => { results := [.lit (.bool false)], args := [d1, d2] }
  | _ => none }
def LinesLateWrongFalsely : Prop := linesLateRow.holds Try.pinned (OpenSpec.ofChange linesLateWrong)

/-- 'abugidalaw34.LinesNil': WHATEVER THE INPUT: true; the input reads as it did. -/
def linesNilSpec : ChangeSpec := { name := "linesNil", fn := fun _ => fun
  | [d1, d2] => { results := [.lit (.bool true)], args := [d1, d2] }
  | _ => none }
def linesNilRow : OpenClaim := { program := "ytemcbaacefjfnaa", sum := "5746f811cd76c693e292897a7b9089b3d6674a2aa7d110f34d5141703bb88a31", func := "abugida/abugidalaw34.LinesNil", spec := "linesNil", unfollowed := true, recurses := true, apart := false }
def LinesNilSaid : Prop := linesNilRow.holds Try.pinned (OpenSpec.ofChange linesNilSpec)

/-- ITS FALSE NEIGHBOUR: 'it returns false'. Refute it at one input. -/
def linesNilWrong : ChangeSpec := { name := "linesNil", fn := fun _ => fun
  | [d1, d2] => { results := [.lit (.bool false)], args := [d1, d2] }
  | _ => none }
def LinesNilWrongFalsely : Prop := linesNilRow.holds Try.pinned (OpenSpec.ofChange linesNilWrong)

/- THE SECOND FORM. 'bulk': how many values and letters a reading holds, each counted each time it is reached (what is shared counts as often as it is met; a slice's spare places count too). A statement '..UptoSaid' is the law's where the arguments, and the package variables that the reading takes, are together of bulk at most 1048576: NARROWER than '..Said'. Prove '..Said' where nothing that the law and all that it calls make is longer than what came in: it says more and counts as full. Else prove '..UptoSaid'. A law counts once. -/
mutual
def uptoBulk {H : Type} : DataW H → Nat
  | .lit (.string bytes) => bytes.length + 1
  | .lit _ => 1
  | .nil => 1
  | .ptr d => uptoBulk d + 1
  | .slice elems spare => uptoBulkAll elems + uptoBulkAll spare + 1
  | .agg parts => uptoBulkAll parts + 1
  | .iface _ d => uptoBulk d + 1
  | .map entries => uptoBulkEntries entries + 1
  | .held _ => 1
def uptoBulkAll {H : Type} : List (DataW H) → Nat
  | [] => 0
  | d :: r => uptoBulk d + uptoBulkAll r
def uptoBulkEntries {H : Type} : List (Lit × DataW H) → Nat
  | [] => 0
  | x :: r => uptoBulkEntry x + uptoBulkEntries r
def uptoBulkEntry {H : Type} : Lit × DataW H → Nat
  | (.string bytes, d) => bytes.length + uptoBulk d + 1
  | (_, d) => uptoBulk d + 1
 end
def uptoSmall : (H : Type) → List (DataW H) → Bool := fun _ ds => decide (uptoBulkAll ds ≤ 1048576)
def OpenSpec.upto (s : _root_.Go.ChangeSpec) : _root_.Go.OpenSpec := { _root_.Go.OpenSpec.ofChange s with cond := some uptoSmall }

/-- 'abugidalaw34.LinesPlays', WHERE WHAT IT READS IS OF BULK AT MOST 1048576: true; the input reads as it did. -/
def linesPlaysUptoRow : OpenClaim := { program := "ytemcbaacefjfnaa", sum := "5746f811cd76c693e292897a7b9089b3d6674a2aa7d110f34d5141703bb88a31", func := "abugida/abugidalaw34.LinesPlays", spec := "linesPlays", unfollowed := true, recurses := true, apart := false, narrowed := true }
def LinesPlaysUptoSaid : Prop := linesPlaysUptoRow.holds Try.pinned (OpenSpec.upto linesPlaysSpec)

/-- 'abugidalaw34.LinesDrains', WHERE WHAT IT READS IS OF BULK AT MOST 1048576: true; the input reads as it did. -/
def linesDrainsUptoRow : OpenClaim := { program := "ytemcbaacefjfnaa", sum := "5746f811cd76c693e292897a7b9089b3d6674a2aa7d110f34d5141703bb88a31", func := "abugida/abugidalaw34.LinesDrains", spec := "linesDrains", unfollowed := true, recurses := true, apart := false, narrowed := true }
def LinesDrainsUptoSaid : Prop := linesDrainsUptoRow.holds Try.pinned (OpenSpec.upto linesDrainsSpec)

/-- 'abugidalaw34.LinesAlone', WHERE WHAT IT READS IS OF BULK AT MOST 1048576: true; the input reads as it did. -/
def linesAloneUptoRow : OpenClaim := { program := "ytemcbaacefjfnaa", sum := "5746f811cd76c693e292897a7b9089b3d6674a2aa7d110f34d5141703bb88a31", func := "abugida/abugidalaw34.LinesAlone", spec := "linesAlone", unfollowed := true, recurses := true, apart := false, narrowed := true }
def LinesAloneUptoSaid : Prop := linesAloneUptoRow.holds Try.pinned (OpenSpec.upto linesAloneSpec)

/-- 'abugidalaw34.LinesNodes', WHERE WHAT IT READS IS OF BULK AT MOST 1048576: true; the input reads as it did. -/
def linesNodesUptoRow : OpenClaim := { program := "ytemcbaacefjfnaa", sum := "5746f811cd76c693e292897a7b9089b3d6674a2aa7d110f34d5141703bb88a31", func := "abugida/abugidalaw34.LinesNodes", spec := "linesNodes", unfollowed := true, recurses := true, apart := false, narrowed := true }
def LinesNodesUptoSaid : Prop := linesNodesUptoRow.holds Try.pinned (OpenSpec.upto linesNodesSpec)

/-- 'abugidalaw34.LinesOwn', WHERE WHAT IT READS IS OF BULK AT MOST 1048576: true; the input reads as it did. -/
def linesOwnUptoRow : OpenClaim := { program := "ytemcbaacefjfnaa", sum := "5746f811cd76c693e292897a7b9089b3d6674a2aa7d110f34d5141703bb88a31", func := "abugida/abugidalaw34.LinesOwn", spec := "linesOwn", unfollowed := true, recurses := true, apart := false, narrowed := true }
def LinesOwnUptoSaid : Prop := linesOwnUptoRow.holds Try.pinned (OpenSpec.upto linesOwnSpec)

/-- 'abugidalaw34.LinesLate', WHERE WHAT IT READS IS OF BULK AT MOST 1048576: true; the input reads as it did. -/
def linesLateUptoRow : OpenClaim := { program := "ytemcbaacefjfnaa", sum := "5746f811cd76c693e292897a7b9089b3d6674a2aa7d110f34d5141703bb88a31", func := "abugida/abugidalaw34.LinesLate", spec := "linesLate", unfollowed := true, recurses := true, apart := false, narrowed := true }
def LinesLateUptoSaid : Prop := linesLateUptoRow.holds Try.pinned (OpenSpec.upto linesLateSpec)

/-- 'abugidalaw34.LinesNil', WHERE WHAT IT READS IS OF BULK AT MOST 1048576: true; the input reads as it did. -/
def linesNilUptoRow : OpenClaim := { program := "ytemcbaacefjfnaa", sum := "5746f811cd76c693e292897a7b9089b3d6674a2aa7d110f34d5141703bb88a31", func := "abugida/abugidalaw34.LinesNil", spec := "linesNil", unfollowed := true, recurses := true, apart := false, narrowed := true }
def LinesNilUptoSaid : Prop := linesNilUptoRow.holds Try.pinned (OpenSpec.upto linesNilSpec)

end Rows
end Go.Proofs.Ytemcbaacefjfnaa
