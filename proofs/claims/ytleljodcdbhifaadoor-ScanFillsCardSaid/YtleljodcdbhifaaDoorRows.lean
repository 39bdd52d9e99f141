/-
  NARROWER THAN 'FOR EVERY INPUT', by the rows' own cells (each row's printed sentence says how): ScanInside: laid · ScanFills: laid · ScanCentres: laid · ScanMoves: laid · ScanTurns: laid · ScanMiddles: laid · ScanBoxes: laid · ScanJoins: laid.
  DERIVED. THE GIVEN ROWS OF THIS SEAT. 8 by the template 'for every input the law returns true; each argument reads behind the call as it read before'; 0 by the template 'total and deterministic' (their statements: YtleljodcdbhifaaDoorTotals.lean).
  GIVEN WITH THE SEED: the statements are not yours to turn. If you find one false, say at which input.
  Laid BY PROGRAM, IN A SANDBOX (cutbox-rows.mjs): the forced cells as the released guide's own fill.sh prints them over the translation cbbff6a19ad57240… (all of the seat's roots in one cut). By AI agents, Wed Nov 11 2026. No macro, syntax, notation, axiom, sorry.
-/
import Derived.Test.YtleljodcdbhifaaDoorChecked
import GoSem.Claim
import GoSem.ClaimJoined
import GoSem.ClaimMapViews
import Derived.JoinedTies
import Derived.KernelRfl
namespace Go.Proofs.YtleljodcdbhifaaDoor
/- THE CELL 'sum', in the pinned program and in every row, IS THE sha256 OF THE DUMP (.gsa) THAT YtleljodcdbhifaaDoorProg.lean LOADS. Nothing in Lean hashes anything: it is a label: what it is worth is what the hold of that sum in a sandbox is worth. -/
noncomputable def Tryd.pinned : Pinned := { name := "ytleljodcdbhifaadoor", sum := "cbbff6a19ad5724053cd2e27f282a9d1ec47a6083b25ba363ee97d7937948787", checked := Tryd.checked }
namespace Rows
def none {H : Type} : Left H := { results := [], args := [] }

/- WHAT THE LISTED PACKAGE-LEVEL VARIABLES READ AS WHEN THE CALL BEGINS. Each datum BY PROGRAM (the guide's laid-datum.mjs) off the statement by which the dump's own 'gosem.cut.vars' lays the variable. In a bare row this is a premise. The card (YtleljodcdbhifaaDoorCards.lean) ties it to the program's text. -/
def laid_math_bits_deBruijn64tab {H : Type} : DataW H := .agg [.lit (.int .u8 0), .lit (.int .u8 1), .lit (.int .u8 56), .lit (.int .u8 2), .lit (.int .u8 57), .lit (.int .u8 49), .lit (.int .u8 28), .lit (.int .u8 3), .lit (.int .u8 61), .lit (.int .u8 58), .lit (.int .u8 42), .lit (.int .u8 50), .lit (.int .u8 38), .lit (.int .u8 29), .lit (.int .u8 17), .lit (.int .u8 4), .lit (.int .u8 62), .lit (.int .u8 47), .lit (.int .u8 59), .lit (.int .u8 36), .lit (.int .u8 45), .lit (.int .u8 43), .lit (.int .u8 51), .lit (.int .u8 22), .lit (.int .u8 53), .lit (.int .u8 39), .lit (.int .u8 33), .lit (.int .u8 30), .lit (.int .u8 24), .lit (.int .u8 18), .lit (.int .u8 12), .lit (.int .u8 5), .lit (.int .u8 63), .lit (.int .u8 55), .lit (.int .u8 48), .lit (.int .u8 27), .lit (.int .u8 60), .lit (.int .u8 41), .lit (.int .u8 37), .lit (.int .u8 16), .lit (.int .u8 46), .lit (.int .u8 35), .lit (.int .u8 44), .lit (.int .u8 21), .lit (.int .u8 52), .lit (.int .u8 32), .lit (.int .u8 23), .lit (.int .u8 11), .lit (.int .u8 54), .lit (.int .u8 26), .lit (.int .u8 40), .lit (.int .u8 15), .lit (.int .u8 34), .lit (.int .u8 20), .lit (.int .u8 31), .lit (.int .u8 10), .lit (.int .u8 25), .lit (.int .u8 14), .lit (.int .u8 19), .lit (.int .u8 9), .lit (.int .u8 13), .lit (.int .u8 8), .lit (.int .u8 7), .lit (.int .u8 6)]

/-- 'abugidalaw11.ScanInside': WHATEVER THE INPUT: true; the input reads as it did. -/
def scanInsideSpec : ChangeSpec := { name := "scanInside", fn := fun _ => fun
  | [d1, d2, d3] => { results := [.lit (.bool true)], args := [d1, d2, d3] }
  | _ => none }
def scanInsideRow : OpenClaim := { program := "ytleljodcdbhifaadoor", sum := "cbbff6a19ad5724053cd2e27f282a9d1ec47a6083b25ba363ee97d7937948787", func := "abugida/abugidalaw11.ScanInside", spec := "scanInside", unfollowed := true, recurses := true, named := ["math/bits.deBruijn64tab"], apart := false, laid := [("math/bits.deBruijn64tab", laid_math_bits_deBruijn64tab)] }
def ScanInsideSaid : Prop := scanInsideRow.holds Tryd.pinned (OpenSpec.ofChange scanInsideSpec)

/-- ITS FALSE NEIGHBOUR: 'it returns false'. Refute it at one input. -/
def scanInsideWrong : ChangeSpec := { name := "scanInside", fn := fun _ => fun
  | [d1, d2, d3] => { results := [.lit (.bool false)], args := [d1, d2, d3] }
  | _ => none }
def ScanInsideWrongFalsely : Prop := scanInsideRow.holds Tryd.pinned (OpenSpec.ofChange scanInsideWrong)

/-- 'abugidalaw11.ScanFills': WHATEVER THE INPUT: true; the input reads as it did. -/
def scanFillsSpec : ChangeSpec := { name := "scanFills", fn := fun _ => fun
  | [d1, d2] => { results := [.lit (.bool true)], args := [d1, d2] }
  | _ => none }
def scanFillsRow : OpenClaim := { program := "ytleljodcdbhifaadoor", sum := "cbbff6a19ad5724053cd2e27f282a9d1ec47a6083b25ba363ee97d7937948787", func := "abugida/abugidalaw11.ScanFills", spec := "scanFills", unfollowed := true, recurses := true, named := ["math/bits.deBruijn64tab"], apart := false, laid := [("math/bits.deBruijn64tab", laid_math_bits_deBruijn64tab)] }
def ScanFillsSaid : Prop := scanFillsRow.holds Tryd.pinned (OpenSpec.ofChange scanFillsSpec)

/-- ITS FALSE NEIGHBOUR: 'it returns false'. Refute it at one input. -/
def scanFillsWrong : ChangeSpec := { name := "scanFills", fn := fun _ => fun
  | [d1, d2] => { results := [.lit (.bool false)], args := [d1, d2] }
  | _ => none }
def ScanFillsWrongFalsely : Prop := scanFillsRow.holds Tryd.pinned (OpenSpec.ofChange scanFillsWrong)

/-- 'abugidalaw11.ScanCentres': WHATEVER THE INPUT: true; the input reads as it did. -/
def scanCentresSpec : ChangeSpec := { name := "scanCentres", fn := fun _ => fun
  | [d1, d2] => { results := [.lit (.bool true)], args := [d1, d2] }
  | _ => none }
def scanCentresRow : OpenClaim := { program := "ytleljodcdbhifaadoor", sum := "cbbff6a19ad5724053cd2e27f282a9d1ec47a6083b25ba363ee97d7937948787", func := "abugida/abugidalaw11.ScanCentres", spec := "scanCentres", unfollowed := true, recurses := true, named := ["math/bits.deBruijn64tab"], apart := false, laid := [("math/bits.deBruijn64tab", laid_math_bits_deBruijn64tab)] }
def ScanCentresSaid : Prop := scanCentresRow.holds Tryd.pinned (OpenSpec.ofChange scanCentresSpec)

/-- ITS FALSE NEIGHBOUR: 'it returns false'. Refute it at one input. -/
def scanCentresWrong : ChangeSpec := { name := "scanCentres", fn := fun _ => fun
  | [d1, d2] => { results := [.lit (.bool false)], args := [d1, d2] }
  | _ => none }
def ScanCentresWrongFalsely : Prop := scanCentresRow.holds Tryd.pinned (OpenSpec.ofChange scanCentresWrong)

/-- 'abugidalaw11.ScanMoves': WHATEVER THE INPUT: true; the input reads as it did. -/
def scanMovesSpec : ChangeSpec := { name := "scanMoves", fn := fun _ => fun
  | [d1, d2] => { results := [.lit (.bool true)], args := [d1, d2] }
  | _ => none }
def scanMovesRow : OpenClaim := { program := "ytleljodcdbhifaadoor", sum := "cbbff6a19ad5724053cd2e27f282a9d1ec47a6083b25ba363ee97d7937948787", func := "abugida/abugidalaw11.ScanMoves", spec := "scanMoves", unfollowed := true, recurses := true, named := ["math/bits.deBruijn64tab"], apart := false, laid := [("math/bits.deBruijn64tab", laid_math_bits_deBruijn64tab)] }
def ScanMovesSaid : Prop := scanMovesRow.holds Tryd.pinned (OpenSpec.ofChange scanMovesSpec)

/-- ITS FALSE NEIGHBOUR: 'it returns false'. Refute it at one input. -/
def scanMovesWrong : ChangeSpec := { name := "scanMoves", fn := fun _ => fun
  | [d1, d2] => { results := [.lit (.bool false)], args := [d1, d2] }
  | _ => none }
def ScanMovesWrongFalsely : Prop := scanMovesRow.holds Tryd.pinned (OpenSpec.ofChange scanMovesWrong)

/-- 'abugidalaw11.ScanTurns': WHATEVER THE INPUT: true; the input reads as it did. -/
def scanTurnsSpec : ChangeSpec := { name := "scanTurns", fn := fun _ => fun
  | [d1, d2] => { results := [.lit (.bool true)], args := [d1, d2] }
  | _ => none }
def scanTurnsRow : OpenClaim := { program := "ytleljodcdbhifaadoor", sum := "cbbff6a19ad5724053cd2e27f282a9d1ec47a6083b25ba363ee97d7937948787", func := "abugida/abugidalaw11.ScanTurns", spec := "scanTurns", unfollowed := true, recurses := true, named := ["math/bits.deBruijn64tab"], apart := false, laid := [("math/bits.deBruijn64tab", laid_math_bits_deBruijn64tab)] }
def ScanTurnsSaid : Prop := scanTurnsRow.holds Tryd.pinned (OpenSpec.ofChange scanTurnsSpec)

/-- ITS FALSE NEIGHBOUR: 'it returns false'. Refute it at one input. -/
def scanTurnsWrong : ChangeSpec := { name := "scanTurns", fn := fun _ => fun
  | [d1, d2] => { results := [.lit (.bool false)], args := [d1, d2] }
  | _ => none }
def ScanTurnsWrongFalsely : Prop := scanTurnsRow.holds Tryd.pinned (OpenSpec.ofChange scanTurnsWrong)

/-- 'abugidalaw11.ScanMiddles': WHATEVER THE INPUT: true; the input reads as it did. -/
def scanMiddlesSpec : ChangeSpec := { name := "scanMiddles", fn := fun _ => fun
  | [d] => { results := [.lit (.bool true)], args := [d] }
  | _ => none }
def scanMiddlesRow : OpenClaim := { program := "ytleljodcdbhifaadoor", sum := "cbbff6a19ad5724053cd2e27f282a9d1ec47a6083b25ba363ee97d7937948787", func := "abugida/abugidalaw11.ScanMiddles", spec := "scanMiddles", unfollowed := true, recurses := true, named := ["math/bits.deBruijn64tab"], apart := false, laid := [("math/bits.deBruijn64tab", laid_math_bits_deBruijn64tab)] }
def ScanMiddlesSaid : Prop := scanMiddlesRow.holds Tryd.pinned (OpenSpec.ofChange scanMiddlesSpec)

/-- ITS FALSE NEIGHBOUR: 'it returns false'. Refute it at one input. -/
def scanMiddlesWrong : ChangeSpec := { name := "scanMiddles", fn := fun _ => fun
  | [d] => { results := [.lit (.bool false)], args := [d] }
  | _ => none }
def ScanMiddlesWrongFalsely : Prop := scanMiddlesRow.holds Tryd.pinned (OpenSpec.ofChange scanMiddlesWrong)

/-- 'abugidalaw11.ScanBoxes': WHATEVER THE INPUT: true; the input reads as it did. -/
def scanBoxesSpec : ChangeSpec := { name := "scanBoxes", fn := fun _ => fun
  | [d1, d2] => { results := [.lit (.bool true)], args := [d1, d2] }
  | _ => none }
def scanBoxesRow : OpenClaim := { program := "ytleljodcdbhifaadoor", sum := "cbbff6a19ad5724053cd2e27f282a9d1ec47a6083b25ba363ee97d7937948787", func := "abugida/abugidalaw11.ScanBoxes", spec := "scanBoxes", unfollowed := true, recurses := true, named := ["math/bits.deBruijn64tab"], apart := false, laid := [("math/bits.deBruijn64tab", laid_math_bits_deBruijn64tab)] }
def ScanBoxesSaid : Prop := scanBoxesRow.holds Tryd.pinned (OpenSpec.ofChange scanBoxesSpec)

/-- ITS FALSE NEIGHBOUR: 'it returns false'. Refute it at one input. -/
def scanBoxesWrong : ChangeSpec := { name := "scanBoxes", fn := fun _ => fun
  | [d1, d2] => { results := [.lit (.bool false)], args := [d1, d2] }
  | _ => none }
def ScanBoxesWrongFalsely : Prop := scanBoxesRow.holds Tryd.pinned (OpenSpec.ofChange scanBoxesWrong)

/-- 'abugidalaw11.ScanJoins': WHATEVER THE INPUT: true; the input reads as it did. -/
def scanJoinsSpec : ChangeSpec := { name := "scanJoins", fn := fun _ => fun
  | [d1, d2, d3] => { results := [.lit (.bool true)], args := [d1, d2, d3] }
  | _ => none }
def scanJoinsRow : OpenClaim := { program := "ytleljodcdbhifaadoor", sum := "cbbff6a19ad5724053cd2e27f282a9d1ec47a6083b25ba363ee97d7937948787", func := "abugida/abugidalaw11.ScanJoins", spec := "scanJoins", unfollowed := true, recurses := true, named := ["math/bits.deBruijn64tab"], apart := false, laid := [("math/bits.deBruijn64tab", laid_math_bits_deBruijn64tab)] }
def ScanJoinsSaid : Prop := scanJoinsRow.holds Tryd.pinned (OpenSpec.ofChange scanJoinsSpec)

/-- ITS FALSE NEIGHBOUR: 'it returns false'. Refute it at one input. -/
def scanJoinsWrong : ChangeSpec := { name := "scanJoins", fn := fun _ => fun
  | [d1, d2, d3] => { results := [.lit (.bool false)], args := [d1, d2, d3] }
  | _ => none }
def ScanJoinsWrongFalsely : Prop := scanJoinsRow.holds Tryd.pinned (OpenSpec.ofChange scanJoinsWrong)

/- THE SECOND FORM. 'bulk': how many values and letters a reading holds, each counted each time it is reached (what is shared counts as often as it is met; a slice's spare places count too). A statement '..UptoSaid' is the law's where the arguments, and the package variables that the reading takes, are together of bulk at most 1048576: NARROWER than '..Said'. Prove '..Said' where nothing that the law and all that it calls make is longer than what came in: it says more and counts as full. Else prove '..UptoSaid'. A law counts once. -/
mutual
def uptoBulk {H : Type} : DataW H → Nat
  | .lit (.string bytes) => bytes.length + 1
  | .lit _ => 1
  | .nil => 1
  | .ptr d => uptoBulk d + 1
  | .slice elems spare => uptoBulkAll elems + uptoBulkAll spare + 1
  | .agg parts => uptoBulkAll parts + 1
  | .iface _ d => uptoBulk d + 1
  | .map entries => uptoBulkEntries entries + 1
  | .held _ => 1
def uptoBulkAll {H : Type} : List (DataW H) → Nat
  | [] => 0
  | d :: r => uptoBulk d + uptoBulkAll r
def uptoBulkEntries {H : Type} : List (Lit × DataW H) → Nat
  | [] => 0
  | x :: r => uptoBulkEntry x + uptoBulkEntries r
def uptoBulkEntry {H : Type} : Lit × DataW H → Nat
  | (.string bytes, d) => bytes.length + uptoBulk d + 1
  | (_, d) => uptoBulk d + 1
 end
def uptoSmall : (H : Type) → List (DataW H) → Bool := fun _ ds => decide (uptoBulkAll ds ≤ 1048576)
def OpenSpec.upto (s : _root_.Go.ChangeSpec) : _root_.Go.OpenSpec := { _root_.Go.OpenSpec.ofChange s with cond := some uptoSmall }

/-- 'abugidalaw11.ScanInside', WHERE WHAT IT READS IS OF BULK AT MOST 1048576: true; the input reads as it did. -/
def scanInsideUptoRow : OpenClaim := { program := "ytleljodcdbhifaadoor", sum := "cbbff6a19ad5724053cd2e27f282a9d1ec47a6083b25ba363ee97d7937948787", func := "abugida/abugidalaw11.ScanInside", spec := "scanInside", unfollowed := true, recurses := true, named := ["math/bits.deBruijn64tab"], apart := false, laid := [("math/bits.deBruijn64tab", laid_math_bits_deBruijn64tab)], narrowed := true }
def ScanInsideUptoSaid : Prop := scanInsideUptoRow.holds Tryd.pinned (OpenSpec.upto scanInsideSpec)

/-- 'abugidalaw11.ScanFills', WHERE WHAT IT READS IS OF BULK AT MOST 1048576: true; the input reads as it did. -/
def scanFillsUptoRow : OpenClaim := { program := "ytleljodcdbhifaadoor", sum := "cbbff6a19ad5724053cd2e27f282a9d1ec47a6083b25ba363ee97d7937948787", func := "abugida/abugidalaw11.ScanFills", spec := "scanFills", unfollowed := true, recurses := true, named := ["math/bits.deBruijn64tab"], apart := false, laid := [("math/bits.deBruijn64tab", laid_math_bits_deBruijn64tab)], narrowed := true }
def ScanFillsUptoSaid : Prop := scanFillsUptoRow.holds Tryd.pinned (OpenSpec.upto scanFillsSpec)

/-- 'abugidalaw11.ScanCentres', WHERE WHAT IT READS IS OF BULK AT MOST 1048576: true; the input reads as it did. -/
def scanCentresUptoRow : OpenClaim := { program := "ytleljodcdbhifaadoor", sum := "cbbff6a19ad5724053cd2e27f282a9d1ec47a6083b25ba363ee97d7937948787", func := "abugida/abugidalaw11.ScanCentres", spec := "scanCentres", unfollowed := true, recurses := true, named := ["math/bits.deBruijn64tab"], apart := false, laid := [("math/bits.deBruijn64tab", laid_math_bits_deBruijn64tab)], narrowed := true }
def ScanCentresUptoSaid : Prop := scanCentresUptoRow.holds Tryd.pinned (OpenSpec.upto scanCentresSpec)

/-- 'abugidalaw11.ScanMoves', WHERE WHAT IT READS IS OF BULK AT MOST 1048576: true; the input reads as it did. -/
def scanMovesUptoRow : OpenClaim := { program := "ytleljodcdbhifaadoor", sum := "cbbff6a19ad5724053cd2e27f282a9d1ec47a6083b25ba363ee97d7937948787", func := "abugida/abugidalaw11.ScanMoves", spec := "scanMoves", unfollowed := true, recurses := true, named := ["math/bits.deBruijn64tab"], apart := false, laid := [("math/bits.deBruijn64tab", laid_math_bits_deBruijn64tab)], narrowed := true }
def ScanMovesUptoSaid : Prop := scanMovesUptoRow.holds Tryd.pinned (OpenSpec.upto scanMovesSpec)

/-- 'abugidalaw11.ScanTurns', WHERE WHAT IT READS IS OF BULK AT MOST 1048576: true; the input reads as it did. -/
def scanTurnsUptoRow : OpenClaim := { program := "ytleljodcdbhifaadoor", sum := "cbbff6a19ad5724053cd2e27f282a9d1ec47a6083b25ba363ee97d7937948787", func := "abugida/abugidalaw11.ScanTurns", spec := "scanTurns", unfollowed := true, recurses := true, named := ["math/bits.deBruijn64tab"], apart := false, laid := [("math/bits.deBruijn64tab", laid_math_bits_deBruijn64tab)], narrowed := true }
def ScanTurnsUptoSaid : Prop := scanTurnsUptoRow.holds Tryd.pinned (OpenSpec.upto scanTurnsSpec)

/-- 'abugidalaw11.ScanMiddles', WHERE WHAT IT READS IS OF BULK AT MOST 1048576: true; the input reads as it did. -/
def scanMiddlesUptoRow : OpenClaim := { program := "ytleljodcdbhifaadoor", sum := "cbbff6a19ad5724053cd2e27f282a9d1ec47a6083b25ba363ee97d7937948787", func := "abugida/abugidalaw11.ScanMiddles", spec := "scanMiddles", unfollowed := true, recurses := true, named := ["math/bits.deBruijn64tab"], apart := false, laid := [("math/bits.deBruijn64tab", laid_math_bits_deBruijn64tab)], narrowed := true }
def ScanMiddlesUptoSaid : Prop := scanMiddlesUptoRow.holds Tryd.pinned (OpenSpec.upto scanMiddlesSpec)

/-- 'abugidalaw11.ScanBoxes', WHERE WHAT IT READS IS OF BULK AT MOST 1048576: true; the input reads as it did. -/
def scanBoxesUptoRow : OpenClaim := { program := "ytleljodcdbhifaadoor", sum := "cbbff6a19ad5724053cd2e27f282a9d1ec47a6083b25ba363ee97d7937948787", func := "abugida/abugidalaw11.ScanBoxes", spec := "scanBoxes", unfollowed := true, recurses := true, named := ["math/bits.deBruijn64tab"], apart := false, laid := [("math/bits.deBruijn64tab", laid_math_bits_deBruijn64tab)], narrowed := true }
def ScanBoxesUptoSaid : Prop := scanBoxesUptoRow.holds Tryd.pinned (OpenSpec.upto scanBoxesSpec)

/-- 'abugidalaw11.ScanJoins', WHERE WHAT IT READS IS OF BULK AT MOST 1048576: true; the input reads as it did. -/
def scanJoinsUptoRow : OpenClaim := { program := "ytleljodcdbhifaadoor", sum := "cbbff6a19ad5724053cd2e27f282a9d1ec47a6083b25ba363ee97d7937948787", func := "abugida/abugidalaw11.ScanJoins", spec := "scanJoins", unfollowed := true, recurses := true, named := ["math/bits.deBruijn64tab"], apart := false, laid := [("math/bits.deBruijn64tab", laid_math_bits_deBruijn64tab)], narrowed := true }
def ScanJoinsUptoSaid : Prop := scanJoinsUptoRow.holds Tryd.pinned (OpenSpec.upto scanJoinsSpec)

end Rows
end Go.Proofs.YtleljodcdbhifaaDoor
