/-
  NARROWER THAN 'FOR EVERY INPUT', by the rows' own cells (each row's printed sentence says how): ElemPi: laid · ElemTurns: laid · TopIdentities: laid · ElemWidth: laid · ElemPrecisions: laid · ElemOdd: laid · ElemOrder: laid · ElemInverse: laid · ElemCircle: laid · ElemLogs: laid · ElemAdds: laid · ElemBack: laid · ElemTwice: laid · ElemRight: laid · ElemBrackets: laid.
  DERIVED. THE GIVEN ROWS OF THIS SEAT. 15 by the template 'for every input the law returns true; each argument reads behind the call as it read before'; 0 by the template 'total and deterministic' (their statements: YtfgephfneliimaaGreatDoorTotals.lean).
  GIVEN WITH THE SEED: the statements are not yours to turn. If you find one false, say at which input.
  Laid BY PROGRAM, IN A SANDBOX (cutbox-rows.mjs): the forced cells as the released guide's own fill.sh prints them over the translation 5f9a720f461583b4… (all of the seat's roots in one cut). By AI agents, Wed Nov 11 2026. No macro, syntax, notation, axiom, sorry.
-/
import Derived.Test.YtfgephfneliimaaGreatDoorChecked
import GoSem.Claim
import GoSem.ClaimJoined
import GoSem.ClaimMapViews
import Derived.JoinedTies
import Derived.KernelRfl
namespace Go.Proofs.YtfgephfneliimaaGreatDoor
/- THE CELL 'sum', in the pinned program and in every row, IS THE sha256 OF THE DUMP (.gsa) THAT YtfgephfneliimaaGreatDoorProg.lean LOADS. Nothing in Lean hashes anything: it is a label: what it is worth is what the hold of that sum in a sandbox is worth. -/
noncomputable def Tryz.pinned : Pinned := { name := "ytfgephfneliimaagreatdoor", sum := "5f9a720f461583b42b29998772d43afb27fefc1fd74cd84c1e320009fad16e28", checked := Tryz.checked }
namespace Rows
def none {H : Type} : Left H := { results := [], args := [] }

/- WHAT THE LISTED PACKAGE-LEVEL VARIABLES READ AS WHEN THE CALL BEGINS. Each datum BY PROGRAM (the guide's laid-datum.mjs) off the statement by which the dump's own 'gosem.cut.vars' lays the variable. In a bare row this is a premise. The card (YtfgephfneliimaaGreatDoorCards.lean) ties it to the program's text. -/
def laid_math_bits_deBruijn32tab {H : Type} : DataW H := .agg [.lit (.int .u8 0), .lit (.int .u8 1), .lit (.int .u8 28), .lit (.int .u8 2), .lit (.int .u8 29), .lit (.int .u8 14), .lit (.int .u8 24), .lit (.int .u8 3), .lit (.int .u8 30), .lit (.int .u8 22), .lit (.int .u8 20), .lit (.int .u8 15), .lit (.int .u8 25), .lit (.int .u8 17), .lit (.int .u8 4), .lit (.int .u8 8), .lit (.int .u8 31), .lit (.int .u8 27), .lit (.int .u8 13), .lit (.int .u8 23), .lit (.int .u8 21), .lit (.int .u8 19), .lit (.int .u8 16), .lit (.int .u8 7), .lit (.int .u8 26), .lit (.int .u8 12), .lit (.int .u8 18), .lit (.int .u8 6), .lit (.int .u8 11), .lit (.int .u8 5), .lit (.int .u8 10), .lit (.int .u8 9)]

/-- 'inequalitylaw02.ElemPi': WHATEVER THE INPUT: true; the input reads as it did. -/
def elemPiSpec : ChangeSpec := { name := "elemPi", fn := fun _ => fun
  | [d] => { results := [.lit (.bool true)], args := [d] }
  | _ => none }
def elemPiRow : OpenClaim := { program := "ytfgephfneliimaagreatdoor", sum := "5f9a720f461583b42b29998772d43afb27fefc1fd74cd84c1e320009fad16e28", func := "inequality/inequalitylaw02.ElemPi", spec := "elemPi", unfollowed := true, recurses := true, named := ["math/bits.deBruijn32tab"], apart := false, laid := [("math/bits.deBruijn32tab", laid_math_bits_deBruijn32tab)] }
def ElemPiSaid : Prop := elemPiRow.holds Tryz.pinned (OpenSpec.ofChange elemPiSpec)

/-- ITS FALSE NEIGHBOUR: 'it returns false'. Refute it at one input. -/
def elemPiWrong : ChangeSpec := { name := "elemPi", fn := fun _ => fun
  | [d] => { results := [.lit (.bool false)], args := [d] }
  | _ => none }
def ElemPiWrongFalsely : Prop := elemPiRow.holds Tryz.pinned (OpenSpec.ofChange elemPiWrong)

/-- 'inequalitylaw02.ElemTurns': WHATEVER THE INPUT: true; the input reads as it did. -/
def elemTurnsSpec : ChangeSpec := { name := "elemTurns", fn := fun _ => fun
  | [d1, d2, d3] => { results := [.lit (.bool true)], args := [d1, d2, d3] }
  | _ => none }
def elemTurnsRow : OpenClaim := { program := "ytfgephfneliimaagreatdoor", sum := "5f9a720f461583b42b29998772d43afb27fefc1fd74cd84c1e320009fad16e28", func := "inequality/inequalitylaw02.ElemTurns", spec := "elemTurns", unfollowed := true, recurses := true, named := ["math/bits.deBruijn32tab"], apart := false, laid := [("math/bits.deBruijn32tab", laid_math_bits_deBruijn32tab)] }
def ElemTurnsSaid : Prop := elemTurnsRow.holds Tryz.pinned (OpenSpec.ofChange elemTurnsSpec)

/-- ITS FALSE NEIGHBOUR: 'it returns false'. Refute it at one input. -/
def elemTurnsWrong : ChangeSpec := { name := "elemTurns", fn := fun _ => fun
  | [d1, d2, d3] => { results := [.lit (.bool false)], args := [d1, d2, d3] }
  | _ => none }
def ElemTurnsWrongFalsely : Prop := elemTurnsRow.holds Tryz.pinned (OpenSpec.ofChange elemTurnsWrong)

/-- 'inequalitytop.TopIdentities': WHATEVER THE INPUT: true; the input reads as it did. -/
def topIdentitiesSpec : ChangeSpec := { name := "topIdentities", fn := fun _ => fun
  | [d] => { results := [.lit (.bool true)], args := [d] }
  | _ => none }
def topIdentitiesRow : OpenClaim := { program := "ytfgephfneliimaagreatdoor", sum := "5f9a720f461583b42b29998772d43afb27fefc1fd74cd84c1e320009fad16e28", func := "inequality/inequalitytop.TopIdentities", spec := "topIdentities", unfollowed := true, recurses := true, named := ["math/bits.deBruijn32tab"], apart := false, laid := [("math/bits.deBruijn32tab", laid_math_bits_deBruijn32tab)] }
def TopIdentitiesSaid : Prop := topIdentitiesRow.holds Tryz.pinned (OpenSpec.ofChange topIdentitiesSpec)

/-- ITS FALSE NEIGHBOUR: 'it returns false'. Refute it at one input. -/
def topIdentitiesWrong : ChangeSpec := { name := "topIdentities", fn := fun _ => fun
  | [d] => { results := [.lit (.bool false)], args := [d] }
  | _ => none }
def TopIdentitiesWrongFalsely : Prop := topIdentitiesRow.holds Tryz.pinned (OpenSpec.ofChange topIdentitiesWrong)

/-- 'inequalitylaw02.ElemWidth': WHATEVER THE INPUT: true; the input reads as it did. -/
def elemWidthSpec : ChangeSpec := { name := "elemWidth", fn := fun _ => fun
  | [d1, d2, d3] => { results := [.lit (.bool true)], args := [d1, d2, d3] }
  | _ => none }
def elemWidthRow : OpenClaim := { program := "ytfgephfneliimaagreatdoor", sum := "5f9a720f461583b42b29998772d43afb27fefc1fd74cd84c1e320009fad16e28", func := "inequality/inequalitylaw02.ElemWidth", spec := "elemWidth", unfollowed := true, recurses := true, named := ["math/bits.deBruijn32tab"], apart := false, laid := [("math/bits.deBruijn32tab", laid_math_bits_deBruijn32tab)] }
def ElemWidthSaid : Prop := elemWidthRow.holds Tryz.pinned (OpenSpec.ofChange elemWidthSpec)

/-- ITS FALSE NEIGHBOUR: 'it returns false'. Refute it at one input. -/
def elemWidthWrong : ChangeSpec := { name := "elemWidth", fn := fun _ => fun
  | [d1, d2, d3] => { results := [.lit (.bool false)], args := [d1, d2, d3] }
  | _ => none }
def ElemWidthWrongFalsely : Prop := elemWidthRow.holds Tryz.pinned (OpenSpec.ofChange elemWidthWrong)

/-- 'inequalitylaw02.ElemPrecisions': WHATEVER THE INPUT: true; the input reads as it did. -/
def elemPrecisionsSpec : ChangeSpec := { name := "elemPrecisions", fn := fun _ => fun
  | [d] => { results := [.lit (.bool true)], args := [d] }
  | _ => none }
def elemPrecisionsRow : OpenClaim := { program := "ytfgephfneliimaagreatdoor", sum := "5f9a720f461583b42b29998772d43afb27fefc1fd74cd84c1e320009fad16e28", func := "inequality/inequalitylaw02.ElemPrecisions", spec := "elemPrecisions", unfollowed := true, recurses := true, named := ["math/bits.deBruijn32tab"], apart := false, laid := [("math/bits.deBruijn32tab", laid_math_bits_deBruijn32tab)] }
def ElemPrecisionsSaid : Prop := elemPrecisionsRow.holds Tryz.pinned (OpenSpec.ofChange elemPrecisionsSpec)

/-- ITS FALSE NEIGHBOUR: 'it returns false'. Refute it at one input. -/
def elemPrecisionsWrong : ChangeSpec := { name := "elemPrecisions", fn := fun _ => fun
  | [d] => { results := [.lit (.bool false)], args := [d] }
  | _ => none }
def ElemPrecisionsWrongFalsely : Prop := elemPrecisionsRow.holds Tryz.pinned (OpenSpec.ofChange elemPrecisionsWrong)

/-- 'inequalitylaw02.ElemOdd': WHATEVER THE INPUT: true; the input reads as it did. -/
def elemOddSpec : ChangeSpec := { name := "elemOdd", fn := fun _ => fun
  | [d1, d2, d3] => { results := [.lit (.bool true)], args := [d1, d2, d3] }
  | _ => none }
def elemOddRow : OpenClaim := { program := "ytfgephfneliimaagreatdoor", sum := "5f9a720f461583b42b29998772d43afb27fefc1fd74cd84c1e320009fad16e28", func := "inequality/inequalitylaw02.ElemOdd", spec := "elemOdd", unfollowed := true, recurses := true, named := ["math/bits.deBruijn32tab"], apart := false, laid := [("math/bits.deBruijn32tab", laid_math_bits_deBruijn32tab)] }
def ElemOddSaid : Prop := elemOddRow.holds Tryz.pinned (OpenSpec.ofChange elemOddSpec)

/-- ITS FALSE NEIGHBOUR: 'it returns false'. Refute it at one input. -/
def elemOddWrong : ChangeSpec := { name := "elemOdd", fn := fun _ => fun
  | [d1, d2, d3] => { results := [.lit (.bool false)], args := [d1, d2, d3] }
  | _ => none }
def ElemOddWrongFalsely : Prop := elemOddRow.holds Tryz.pinned (OpenSpec.ofChange elemOddWrong)

/-- 'inequalitylaw02.ElemOrder': WHATEVER THE INPUT: true; the input reads as it did. -/
def elemOrderSpec : ChangeSpec := { name := "elemOrder", fn := fun _ => fun
  | [d1, d2, d3] => { results := [.lit (.bool true)], args := [d1, d2, d3] }
  | _ => none }
def elemOrderRow : OpenClaim := { program := "ytfgephfneliimaagreatdoor", sum := "5f9a720f461583b42b29998772d43afb27fefc1fd74cd84c1e320009fad16e28", func := "inequality/inequalitylaw02.ElemOrder", spec := "elemOrder", unfollowed := true, recurses := true, named := ["math/bits.deBruijn32tab"], apart := false, laid := [("math/bits.deBruijn32tab", laid_math_bits_deBruijn32tab)] }
def ElemOrderSaid : Prop := elemOrderRow.holds Tryz.pinned (OpenSpec.ofChange elemOrderSpec)

/-- ITS FALSE NEIGHBOUR: 'it returns false'. Refute it at one input. -/
def elemOrderWrong : ChangeSpec := { name := "elemOrder", fn := fun _ => fun
  | [d1, d2, d3] => { results := [.lit (.bool false)], args := [d1, d2, d3] }
  | _ => none }
def ElemOrderWrongFalsely : Prop := elemOrderRow.holds Tryz.pinned (OpenSpec.ofChange elemOrderWrong)

/-- 'inequalitylaw02.ElemInverse': WHATEVER THE INPUT: true; the input reads as it did. -/
def elemInverseSpec : ChangeSpec := { name := "elemInverse", fn := fun _ => fun
  | [d1, d2] => { results := [.lit (.bool true)], args := [d1, d2] }
  | _ => none }
def elemInverseRow : OpenClaim := { program := "ytfgephfneliimaagreatdoor", sum := "5f9a720f461583b42b29998772d43afb27fefc1fd74cd84c1e320009fad16e28", func := "inequality/inequalitylaw02.ElemInverse", spec := "elemInverse", unfollowed := true, recurses := true, named := ["math/bits.deBruijn32tab"], apart := false, laid := [("math/bits.deBruijn32tab", laid_math_bits_deBruijn32tab)] }
def ElemInverseSaid : Prop := elemInverseRow.holds Tryz.pinned (OpenSpec.ofChange elemInverseSpec)

/-- ITS FALSE NEIGHBOUR: 'it returns false'. Refute it at one input. -/
def elemInverseWrong : ChangeSpec := { name := "elemInverse", fn := fun _ => fun
  | [d1, d2] => { results := [.lit (.bool false)], args := [d1, d2] }
  | _ => none }
def ElemInverseWrongFalsely : Prop := elemInverseRow.holds Tryz.pinned (OpenSpec.ofChange elemInverseWrong)

/-- 'inequalitylaw02.ElemCircle': WHATEVER THE INPUT: true; the input reads as it did. -/
def elemCircleSpec : ChangeSpec := { name := "elemCircle", fn := fun _ => fun
  | [d1, d2] => { results := [.lit (.bool true)], args := [d1, d2] }
  | _ => none }
def elemCircleRow : OpenClaim := { program := "ytfgephfneliimaagreatdoor", sum := "5f9a720f461583b42b29998772d43afb27fefc1fd74cd84c1e320009fad16e28", func := "inequality/inequalitylaw02.ElemCircle", spec := "elemCircle", unfollowed := true, recurses := true, named := ["math/bits.deBruijn32tab"], apart := false, laid := [("math/bits.deBruijn32tab", laid_math_bits_deBruijn32tab)] }
def ElemCircleSaid : Prop := elemCircleRow.holds Tryz.pinned (OpenSpec.ofChange elemCircleSpec)

/-- ITS FALSE NEIGHBOUR: 'it returns false'. Refute it at one input. -/
def elemCircleWrong : ChangeSpec := { name := "elemCircle", fn := fun _ => fun
  | [d1, d2] => { results := [.lit (.bool false)], args := [d1, d2] }
  | _ => none }
def ElemCircleWrongFalsely : Prop := elemCircleRow.holds Tryz.pinned (OpenSpec.ofChange elemCircleWrong)

/-- 'inequalitylaw02.ElemLogs': WHATEVER THE INPUT: true; the input reads as it did. -/
def elemLogsSpec : ChangeSpec := { name := "elemLogs", fn := fun _ => fun
  | [d1, d2, d3] => { results := [.lit (.bool true)], args := [d1, d2, d3] }
  | _ => none }
def elemLogsRow : OpenClaim := { program := "ytfgephfneliimaagreatdoor", sum := "5f9a720f461583b42b29998772d43afb27fefc1fd74cd84c1e320009fad16e28", func := "inequality/inequalitylaw02.ElemLogs", spec := "elemLogs", unfollowed := true, recurses := true, named := ["math/bits.deBruijn32tab"], apart := false, laid := [("math/bits.deBruijn32tab", laid_math_bits_deBruijn32tab)] }
def ElemLogsSaid : Prop := elemLogsRow.holds Tryz.pinned (OpenSpec.ofChange elemLogsSpec)

/-- ITS FALSE NEIGHBOUR: 'it returns false'. Refute it at one input. -/
def elemLogsWrong : ChangeSpec := { name := "elemLogs", fn := fun _ => fun
  | [d1, d2, d3] => { results := [.lit (.bool false)], args := [d1, d2, d3] }
  | _ => none }
def ElemLogsWrongFalsely : Prop := elemLogsRow.holds Tryz.pinned (OpenSpec.ofChange elemLogsWrong)

/-- 'inequalitylaw02.ElemAdds': WHATEVER THE INPUT: true; the input reads as it did. -/
def elemAddsSpec : ChangeSpec := { name := "elemAdds", fn := fun _ => fun
  | [d1, d2, d3] => { results := [.lit (.bool true)], args := [d1, d2, d3] }
  | _ => none }
def elemAddsRow : OpenClaim := { program := "ytfgephfneliimaagreatdoor", sum := "5f9a720f461583b42b29998772d43afb27fefc1fd74cd84c1e320009fad16e28", func := "inequality/inequalitylaw02.ElemAdds", spec := "elemAdds", unfollowed := true, recurses := true, named := ["math/bits.deBruijn32tab"], apart := false, laid := [("math/bits.deBruijn32tab", laid_math_bits_deBruijn32tab)] }
def ElemAddsSaid : Prop := elemAddsRow.holds Tryz.pinned (OpenSpec.ofChange elemAddsSpec)

/-- ITS FALSE NEIGHBOUR: 'it returns false'. Refute it at one input. -/
def elemAddsWrong : ChangeSpec := { name := "elemAdds", fn := fun _ => fun
  | [d1, d2, d3] => { results := [.lit (.bool false)], args := [d1, d2, d3] }
  | _ => none }
def ElemAddsWrongFalsely : Prop := elemAddsRow.holds Tryz.pinned (OpenSpec.ofChange elemAddsWrong)

/-- 'inequalitylaw02.ElemBack': WHATEVER THE INPUT: true; the input reads as it did. -/
def elemBackSpec : ChangeSpec := { name := "elemBack", fn := fun _ => fun
  | [d1, d2, d3] => { results := [.lit (.bool true)], args := [d1, d2, d3] }
  | _ => none }
def elemBackRow : OpenClaim := { program := "ytfgephfneliimaagreatdoor", sum := "5f9a720f461583b42b29998772d43afb27fefc1fd74cd84c1e320009fad16e28", func := "inequality/inequalitylaw02.ElemBack", spec := "elemBack", unfollowed := true, recurses := true, named := ["math/bits.deBruijn32tab"], apart := false, laid := [("math/bits.deBruijn32tab", laid_math_bits_deBruijn32tab)] }
def ElemBackSaid : Prop := elemBackRow.holds Tryz.pinned (OpenSpec.ofChange elemBackSpec)

/-- ITS FALSE NEIGHBOUR: 'it returns false'. Refute it at one input. -/
def elemBackWrong : ChangeSpec := { name := "elemBack", fn := fun _ => fun
  | [d1, d2, d3] => { results := [.lit (.bool false)], args := [d1, d2, d3] }
  | _ => none }
def ElemBackWrongFalsely : Prop := elemBackRow.holds Tryz.pinned (OpenSpec.ofChange elemBackWrong)

/-- 'inequalitylaw02.ElemTwice': WHATEVER THE INPUT: true; the input reads as it did. -/
def elemTwiceSpec : ChangeSpec := { name := "elemTwice", fn := fun _ => fun
  | [d1, d2, d3] => { results := [.lit (.bool true)], args := [d1, d2, d3] }
  | _ => none }
def elemTwiceRow : OpenClaim := { program := "ytfgephfneliimaagreatdoor", sum := "5f9a720f461583b42b29998772d43afb27fefc1fd74cd84c1e320009fad16e28", func := "inequality/inequalitylaw02.ElemTwice", spec := "elemTwice", unfollowed := true, recurses := true, named := ["math/bits.deBruijn32tab"], apart := false, laid := [("math/bits.deBruijn32tab", laid_math_bits_deBruijn32tab)] }
def ElemTwiceSaid : Prop := elemTwiceRow.holds Tryz.pinned (OpenSpec.ofChange elemTwiceSpec)

/-- ITS FALSE NEIGHBOUR: 'it returns false'. Refute it at one input. -/
def elemTwiceWrong : ChangeSpec := { name := "elemTwice", fn := fun _ => fun
  | [d1, d2, d3] => { results := [.lit (.bool false)], args := [d1, d2, d3] }
  | _ => none }
def ElemTwiceWrongFalsely : Prop := elemTwiceRow.holds Tryz.pinned (OpenSpec.ofChange elemTwiceWrong)

/-- 'inequalitylaw02.ElemRight': WHATEVER THE INPUT: true; the input reads as it did. -/
def elemRightSpec : ChangeSpec := { name := "elemRight", fn := fun _ => fun
  | [d1, d2] => { results := [.lit (.bool true)], args := [d1, d2] }
  | _ => none }
def elemRightRow : OpenClaim := { program := "ytfgephfneliimaagreatdoor", sum := "5f9a720f461583b42b29998772d43afb27fefc1fd74cd84c1e320009fad16e28", func := "inequality/inequalitylaw02.ElemRight", spec := "elemRight", unfollowed := true, recurses := true, named := ["math/bits.deBruijn32tab"], apart := false, laid := [("math/bits.deBruijn32tab", laid_math_bits_deBruijn32tab)] }
def ElemRightSaid : Prop := elemRightRow.holds Tryz.pinned (OpenSpec.ofChange elemRightSpec)

/-- ITS FALSE NEIGHBOUR: 'it returns false'. Refute it at one input. -/
def elemRightWrong : ChangeSpec := { name := "elemRight", fn := fun _ => fun
  | [d1, d2] => { results := [.lit (.bool false)], args := [d1, d2] }
  | _ => none }
def ElemRightWrongFalsely : Prop := elemRightRow.holds Tryz.pinned (OpenSpec.ofChange elemRightWrong)

/-- 'inequalitylaw02.ElemBrackets': WHATEVER THE INPUT: true; the input reads as it did. -/
def elemBracketsSpec : ChangeSpec := { name := "elemBrackets", fn := fun _ => fun
  | [d1, d2, d3] => { results := [.lit (.bool true)], args := [d1, d2, d3] }
  | _ => none }
def elemBracketsRow : OpenClaim := { program := "ytfgephfneliimaagreatdoor", sum := "5f9a720f461583b42b29998772d43afb27fefc1fd74cd84c1e320009fad16e28", func := "inequality/inequalitylaw02.ElemBrackets", spec := "elemBrackets", unfollowed := true, recurses := true, named := ["math/bits.deBruijn32tab"], apart := false, laid := [("math/bits.deBruijn32tab", laid_math_bits_deBruijn32tab)] }
def ElemBracketsSaid : Prop := elemBracketsRow.holds Tryz.pinned (OpenSpec.ofChange elemBracketsSpec)

/-- ITS FALSE NEIGHBOUR: 'it returns false'. Refute it at one input. -/
def elemBracketsWrong : ChangeSpec := { name := "elemBrackets", fn := fun _ => fun
  | [d1, d2, d3] => { results := [.lit (.bool false)], args := [d1, d2, d3] }
  | _ => none }
def ElemBracketsWrongFalsely : Prop := elemBracketsRow.holds Tryz.pinned (OpenSpec.ofChange elemBracketsWrong)

/- THE SECOND FORM. 'bulk': how many values and letters a reading holds, each counted each time it is reached (what is shared counts as often as it is met; a slice's spare places count too). A statement '..UptoSaid' is the law's where the arguments, and the package variables that the reading takes, are together of bulk at most 1048576: NARROWER than '..Said'. Prove '..Said' where nothing that the law and all that it calls make is longer than what came in: it says more and counts as full. Else prove '..UptoSaid'. A law counts once. -/
mutual
def uptoBulk {H : Type} : DataW H → Nat
  | .lit (.string bytes) => bytes.length + 1
  | .lit _ => 1
  | .nil => 1
  | .ptr d => uptoBulk d + 1
  | .slice elems spare => uptoBulkAll elems + uptoBulkAll spare + 1
  | .agg parts => uptoBulkAll parts + 1
  | .iface _ d => uptoBulk d + 1
  | .map entries => uptoBulkEntries entries + 1
  | .held _ => 1
def uptoBulkAll {H : Type} : List (DataW H) → Nat
  | [] => 0
  | d :: r => uptoBulk d + uptoBulkAll r
def uptoBulkEntries {H : Type} : List (Lit × DataW H) → Nat
  | [] => 0
  | x :: r => uptoBulkEntry x + uptoBulkEntries r
def uptoBulkEntry {H : Type} : Lit × DataW H → Nat
  | (.string bytes, d) => bytes.length + uptoBulk d + 1
  | (_, d) => uptoBulk d + 1
 end
def uptoSmall : (H : Type) → List (DataW H) → Bool := fun _ ds => decide (uptoBulkAll ds ≤ 1048576)
def OpenSpec.upto (s : _root_.Go.ChangeSpec) : _root_.Go.OpenSpec := { _root_.Go.OpenSpec.ofChange s with cond := some uptoSmall }

/-- 'inequalitylaw02.ElemPi', WHERE WHAT IT READS IS OF BULK AT MOST 1048576: true; the input reads as it did. -/
def elemPiUptoRow : OpenClaim := { program := "ytfgephfneliimaagreatdoor", sum := "5f9a720f461583b42b29998772d43afb27fefc1fd74cd84c1e320009fad16e28", func := "inequality/inequalitylaw02.ElemPi", spec := "elemPi", unfollowed := true, recurses := true, named := ["math/bits.deBruijn32tab"], apart := false, laid := [("math/bits.deBruijn32tab", laid_math_bits_deBruijn32tab)], narrowed := true }
def ElemPiUptoSaid : Prop := elemPiUptoRow.holds Tryz.pinned (OpenSpec.upto elemPiSpec)

/-- 'inequalitylaw02.ElemTurns', WHERE WHAT IT READS IS OF BULK AT MOST 1048576: true; the input reads as it did. -/
def elemTurnsUptoRow : OpenClaim := { program := "ytfgephfneliimaagreatdoor", sum := "5f9a720f461583b42b29998772d43afb27fefc1fd74cd84c1e320009fad16e28", func := "inequality/inequalitylaw02.ElemTurns", spec := "elemTurns", unfollowed := true, recurses := true, named := ["math/bits.deBruijn32tab"], apart := false, laid := [("math/bits.deBruijn32tab", laid_math_bits_deBruijn32tab)], narrowed := true }
def ElemTurnsUptoSaid : Prop := elemTurnsUptoRow.holds Tryz.pinned (OpenSpec.upto elemTurnsSpec)

/-- 'inequalitytop.TopIdentities', WHERE WHAT IT READS IS OF BULK AT MOST 1048576: true; the input reads as it did. -/
def topIdentitiesUptoRow : OpenClaim := { program := "ytfgephfneliimaagreatdoor", sum := "5f9a720f461583b42b29998772d43afb27fefc1fd74cd84c1e320009fad16e28", func := "inequality/inequalitytop.TopIdentities", spec := "topIdentities", unfollowed := true, recurses := true, named := ["math/bits.deBruijn32tab"], apart := false, laid := [("math/bits.deBruijn32tab", laid_math_bits_deBruijn32tab)], narrowed := true }
def TopIdentitiesUptoSaid : Prop := topIdentitiesUptoRow.holds Tryz.pinned (OpenSpec.upto topIdentitiesSpec)

/-- 'inequalitylaw02.ElemWidth', WHERE WHAT IT READS IS OF BULK AT MOST 1048576: true; the input reads as it did. -/
def elemWidthUptoRow : OpenClaim := { program := "ytfgephfneliimaagreatdoor", sum := "5f9a720f461583b42b29998772d43afb27fefc1fd74cd84c1e320009fad16e28", func := "inequality/inequalitylaw02.ElemWidth", spec := "elemWidth", unfollowed := true, recurses := true, named := ["math/bits.deBruijn32tab"], apart := false, laid := [("math/bits.deBruijn32tab", laid_math_bits_deBruijn32tab)], narrowed := true }
def ElemWidthUptoSaid : Prop := elemWidthUptoRow.holds Tryz.pinned (OpenSpec.upto elemWidthSpec)

/-- 'inequalitylaw02.ElemPrecisions', WHERE WHAT IT READS IS OF BULK AT MOST 1048576: true; the input reads as it did. -/
def elemPrecisionsUptoRow : OpenClaim := { program := "ytfgephfneliimaagreatdoor", sum := "5f9a720f461583b42b29998772d43afb27fefc1fd74cd84c1e320009fad16e28", func := "inequality/inequalitylaw02.ElemPrecisions", spec := "elemPrecisions", unfollowed := true, recurses := true, named := ["math/bits.deBruijn32tab"], apart := false, laid := [("math/bits.deBruijn32tab", laid_math_bits_deBruijn32tab)], narrowed := true }
def ElemPrecisionsUptoSaid : Prop := elemPrecisionsUptoRow.holds Tryz.pinned (OpenSpec.upto elemPrecisionsSpec)

/-- 'inequalitylaw02.ElemOdd', WHERE WHAT IT READS IS OF BULK AT MOST 1048576: true; the input reads as it did. -/
def elemOddUptoRow : OpenClaim := { program := "ytfgephfneliimaagreatdoor", sum := "5f9a720f461583b42b29998772d43afb27fefc1fd74cd84c1e320009fad16e28", func := "inequality/inequalitylaw02.ElemOdd", spec := "elemOdd", unfollowed := true, recurses := true, named := ["math/bits.deBruijn32tab"], apart := false, laid := [("math/bits.deBruijn32tab", laid_math_bits_deBruijn32tab)], narrowed := true }
def ElemOddUptoSaid : Prop := elemOddUptoRow.holds Tryz.pinned (OpenSpec.upto elemOddSpec)

/-- 'inequalitylaw02.ElemOrder', WHERE WHAT IT READS IS OF BULK AT MOST 1048576: true; the input reads as it did. -/
def elemOrderUptoRow : OpenClaim := { program := "ytfgephfneliimaagreatdoor", sum := "5f9a720f461583b42b29998772d43afb27fefc1fd74cd84c1e320009fad16e28", func := "inequality/inequalitylaw02.ElemOrder", spec := "elemOrder", unfollowed := true, recurses := true, named := ["math/bits.deBruijn32tab"], apart := false, laid := [("math/bits.deBruijn32tab", laid_math_bits_deBruijn32tab)], narrowed := true }
def ElemOrderUptoSaid : Prop := elemOrderUptoRow.holds Tryz.pinned (OpenSpec.upto elemOrderSpec)

/-- 'inequalitylaw02.ElemInverse', WHERE WHAT IT READS IS OF BULK AT MOST 1048576: true; the input reads as it did. -/
def elemInverseUptoRow : OpenClaim := { program := "ytfgephfneliimaagreatdoor", sum := "5f9a720f461583b42b29998772d43afb27fefc1fd74cd84c1e320009fad16e28", func := "inequality/inequalitylaw02.ElemInverse", spec := "elemInverse", unfollowed := true, recurses := true, named := ["math/bits.deBruijn32tab"], apart := false, laid := [("math/bits.deBruijn32tab", laid_math_bits_deBruijn32tab)], narrowed := true }
def ElemInverseUptoSaid : Prop := elemInverseUptoRow.holds Tryz.pinned (OpenSpec.upto elemInverseSpec)

/-- 'inequalitylaw02.ElemCircle', WHERE WHAT IT READS IS OF BULK AT MOST 1048576: true; the input reads as it did. -/
def elemCircleUptoRow : OpenClaim := { program := "ytfgephfneliimaagreatdoor", sum := "5f9a720f461583b42b29998772d43afb27fefc1fd74cd84c1e320009fad16e28", func := "inequality/inequalitylaw02.ElemCircle", spec := "elemCircle", unfollowed := true, recurses := true, named := ["math/bits.deBruijn32tab"], apart := false, laid := [("math/bits.deBruijn32tab", laid_math_bits_deBruijn32tab)], narrowed := true }
def ElemCircleUptoSaid : Prop := elemCircleUptoRow.holds Tryz.pinned (OpenSpec.upto elemCircleSpec)

/-- 'inequalitylaw02.ElemLogs', WHERE WHAT IT READS IS OF BULK AT MOST 1048576: true; the input reads as it did. -/
def elemLogsUptoRow : OpenClaim := { program := "ytfgephfneliimaagreatdoor", sum := "5f9a720f461583b42b29998772d43afb27fefc1fd74cd84c1e320009fad16e28", func := "inequality/inequalitylaw02.ElemLogs", spec := "elemLogs", unfollowed := true, recurses := true, named := ["math/bits.deBruijn32tab"], apart := false, laid := [("math/bits.deBruijn32tab", laid_math_bits_deBruijn32tab)], narrowed := true }
def ElemLogsUptoSaid : Prop := elemLogsUptoRow.holds Tryz.pinned (OpenSpec.upto elemLogsSpec)

/-- 'inequalitylaw02.ElemAdds', WHERE WHAT IT READS IS OF BULK AT MOST 1048576: true; the input reads as it did. -/
def elemAddsUptoRow : OpenClaim := { program := "ytfgephfneliimaagreatdoor", sum := "5f9a720f461583b42b29998772d43afb27fefc1fd74cd84c1e320009fad16e28", func := "inequality/inequalitylaw02.ElemAdds", spec := "elemAdds", unfollowed := true, recurses := true, named := ["math/bits.deBruijn32tab"], apart := false, laid := [("math/bits.deBruijn32tab", laid_math_bits_deBruijn32tab)], narrowed := true }
def ElemAddsUptoSaid : Prop := elemAddsUptoRow.holds Tryz.pinned (OpenSpec.upto elemAddsSpec)

/-- 'inequalitylaw02.ElemBack', WHERE WHAT IT READS IS OF BULK AT MOST 1048576: true; the input reads as it did. -/
def elemBackUptoRow : OpenClaim := { program := "ytfgephfneliimaagreatdoor", sum := "5f9a720f461583b42b29998772d43afb27fefc1fd74cd84c1e320009fad16e28", func := "inequality/inequalitylaw02.ElemBack", spec := "elemBack", unfollowed := true, recurses := true, named := ["math/bits.deBruijn32tab"], apart := false, laid := [("math/bits.deBruijn32tab", laid_math_bits_deBruijn32tab)], narrowed := true }
def ElemBackUptoSaid : Prop := elemBackUptoRow.holds Tryz.pinned (OpenSpec.upto elemBackSpec)

/-- 'inequalitylaw02.ElemTwice', WHERE WHAT IT READS IS OF BULK AT MOST 1048576: true; the input reads as it did. -/
def elemTwiceUptoRow : OpenClaim := { program := "ytfgephfneliimaagreatdoor", sum := "5f9a720f461583b42b29998772d43afb27fefc1fd74cd84c1e320009fad16e28", func := "inequality/inequalitylaw02.ElemTwice", spec := "elemTwice", unfollowed := true, recurses := true, named := ["math/bits.deBruijn32tab"], apart := false, laid := [("math/bits.deBruijn32tab", laid_math_bits_deBruijn32tab)], narrowed := true }
def ElemTwiceUptoSaid : Prop := elemTwiceUptoRow.holds Tryz.pinned (OpenSpec.upto elemTwiceSpec)

/-- 'inequalitylaw02.ElemRight', WHERE WHAT IT READS IS OF BULK AT MOST 1048576: true; the input reads as it did. -/
def elemRightUptoRow : OpenClaim := { program := "ytfgephfneliimaagreatdoor", sum := "5f9a720f461583b42b29998772d43afb27fefc1fd74cd84c1e320009fad16e28", func := "inequality/inequalitylaw02.ElemRight", spec := "elemRight", unfollowed := true, recurses := true, named := ["math/bits.deBruijn32tab"], apart := false, laid := [("math/bits.deBruijn32tab", laid_math_bits_deBruijn32tab)], narrowed := true }
def ElemRightUptoSaid : Prop := elemRightUptoRow.holds Tryz.pinned (OpenSpec.upto elemRightSpec)

/-- 'inequalitylaw02.ElemBrackets', WHERE WHAT IT READS IS OF BULK AT MOST 1048576: true; the input reads as it did. -/
def elemBracketsUptoRow : OpenClaim := { program := "ytfgephfneliimaagreatdoor", sum := "5f9a720f461583b42b29998772d43afb27fefc1fd74cd84c1e320009fad16e28", func := "inequality/inequalitylaw02.ElemBrackets", spec := "elemBrackets", unfollowed := true, recurses := true, named := ["math/bits.deBruijn32tab"], apart := false, laid := [("math/bits.deBruijn32tab", laid_math_bits_deBruijn32tab)], narrowed := true }
def ElemBracketsUptoSaid : Prop := elemBracketsUptoRow.holds Tryz.pinned (OpenSpec.upto elemBracketsSpec)

end Rows
end Go.Proofs.YtfgephfneliimaaGreatDoor
