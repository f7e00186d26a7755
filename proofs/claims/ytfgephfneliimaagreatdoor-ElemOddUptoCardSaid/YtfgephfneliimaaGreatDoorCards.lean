/-
  DERIVED. GIVEN WITH THE SEED: THE CARDS: each row of YtfgephfneliimaaGreatDoorRows.lean that lists a variable, with what it lists TIED to the program's text (the seventh form; the later family's looks); each row that meets fmt, with fmt's text TOLD by the authors' own Lean function (tested against real Go, not proved from fmt's source: count such statements apart). THE CARD IS WHAT COUNTS. Prove the row's statement (the work); the ties are given (YtfgephfneliimaaGreatDoorTie.lean); close each card by the builder's one call (the guide's Derived/Test/ToyasCard.lean, 'card_holds'). Laid BY PROGRAM, IN A SANDBOX (cutbox-door.mjs). By AI agents, Wed Nov 11 2026. No macro, syntax, notation, axiom, sorry.
-/
import Derived.Test.YtfgephfneliimaaGreatDoorRows
import GoSem.ClaimSeven
namespace Go.Proofs.YtfgephfneliimaaGreatDoor
namespace Rows

/-- THE TIED CARD OF 'inequalitylaw02.ElemPi'. -/
def elemPiCard : Claim7 := { stood := { row := elemPiRow, standIns := [], harness := (true, "61a317565c7440bf498fb091500446ad6ffbf976ee5826484c53f3c7afcd3613"), looks := false }, kinds := [], alts := [], laidByText := true, laidKinds := [.data], laidTests := true, laidLooks := .later }
def ElemPiCardSaid : Prop := Claim7.holds Tryz.pinned (.plain (OpenSpec.ofChange elemPiSpec)) elemPiCard

/-- THE TIED CARD OF 'inequalitylaw02.ElemTurns'. -/
def elemTurnsCard : Claim7 := { stood := { row := elemTurnsRow, standIns := [], harness := (true, "61a317565c7440bf498fb091500446ad6ffbf976ee5826484c53f3c7afcd3613"), looks := false }, kinds := [], alts := [], laidByText := true, laidKinds := [.data], laidTests := true, laidLooks := .later }
def ElemTurnsCardSaid : Prop := Claim7.holds Tryz.pinned (.plain (OpenSpec.ofChange elemTurnsSpec)) elemTurnsCard

/-- THE TIED CARD OF 'inequalitytop.TopIdentities'. -/
def topIdentitiesCard : Claim7 := { stood := { row := topIdentitiesRow, standIns := [], harness := (true, "61a317565c7440bf498fb091500446ad6ffbf976ee5826484c53f3c7afcd3613"), looks := false }, kinds := [], alts := [], laidByText := true, laidKinds := [.data], laidTests := true, laidLooks := .later }
def TopIdentitiesCardSaid : Prop := Claim7.holds Tryz.pinned (.plain (OpenSpec.ofChange topIdentitiesSpec)) topIdentitiesCard

/-- THE TIED CARD OF 'inequalitylaw02.ElemWidth'. -/
def elemWidthCard : Claim7 := { stood := { row := elemWidthRow, standIns := [], harness := (true, "61a317565c7440bf498fb091500446ad6ffbf976ee5826484c53f3c7afcd3613"), looks := false }, kinds := [], alts := [], laidByText := true, laidKinds := [.data], laidTests := true, laidLooks := .later }
def ElemWidthCardSaid : Prop := Claim7.holds Tryz.pinned (.plain (OpenSpec.ofChange elemWidthSpec)) elemWidthCard

/-- THE TIED CARD OF 'inequalitylaw02.ElemPrecisions'. -/
def elemPrecisionsCard : Claim7 := { stood := { row := elemPrecisionsRow, standIns := [], harness := (true, "61a317565c7440bf498fb091500446ad6ffbf976ee5826484c53f3c7afcd3613"), looks := false }, kinds := [], alts := [], laidByText := true, laidKinds := [.data], laidTests := true, laidLooks := .later }
def ElemPrecisionsCardSaid : Prop := Claim7.holds Tryz.pinned (.plain (OpenSpec.ofChange elemPrecisionsSpec)) elemPrecisionsCard

/-- THE TIED CARD OF 'inequalitylaw02.ElemOdd'. -/
def elemOddCard : Claim7 := { stood := { row := elemOddRow, standIns := [], harness := (true, "61a317565c7440bf498fb091500446ad6ffbf976ee5826484c53f3c7afcd3613"), looks := false }, kinds := [], alts := [], laidByText := true, laidKinds := [.data], laidTests := true, laidLooks := .later }
def ElemOddCardSaid : Prop := Claim7.holds Tryz.pinned (.plain (OpenSpec.ofChange elemOddSpec)) elemOddCard

/-- THE TIED CARD OF 'inequalitylaw02.ElemOrder'. -/
def elemOrderCard : Claim7 := { stood := { row := elemOrderRow, standIns := [], harness := (true, "61a317565c7440bf498fb091500446ad6ffbf976ee5826484c53f3c7afcd3613"), looks := false }, kinds := [], alts := [], laidByText := true, laidKinds := [.data], laidTests := true, laidLooks := .later }
def ElemOrderCardSaid : Prop := Claim7.holds Tryz.pinned (.plain (OpenSpec.ofChange elemOrderSpec)) elemOrderCard

/-- THE TIED CARD OF 'inequalitylaw02.ElemInverse'. -/
def elemInverseCard : Claim7 := { stood := { row := elemInverseRow, standIns := [], harness := (true, "61a317565c7440bf498fb091500446ad6ffbf976ee5826484c53f3c7afcd3613"), looks := false }, kinds := [], alts := [], laidByText := true, laidKinds := [.data], laidTests := true, laidLooks := .later }
def ElemInverseCardSaid : Prop := Claim7.holds Tryz.pinned (.plain (OpenSpec.ofChange elemInverseSpec)) elemInverseCard

/-- THE TIED CARD OF 'inequalitylaw02.ElemCircle'. -/
def elemCircleCard : Claim7 := { stood := { row := elemCircleRow, standIns := [], harness := (true, "61a317565c7440bf498fb091500446ad6ffbf976ee5826484c53f3c7afcd3613"), looks := false }, kinds := [], alts := [], laidByText := true, laidKinds := [.data], laidTests := true, laidLooks := .later }
def ElemCircleCardSaid : Prop := Claim7.holds Tryz.pinned (.plain (OpenSpec.ofChange elemCircleSpec)) elemCircleCard

/-- THE TIED CARD OF 'inequalitylaw02.ElemLogs'. -/
def elemLogsCard : Claim7 := { stood := { row := elemLogsRow, standIns := [], harness := (true, "61a317565c7440bf498fb091500446ad6ffbf976ee5826484c53f3c7afcd3613"), looks := false }, kinds := [], alts := [], laidByText := true, laidKinds := [.data], laidTests := true, laidLooks := .later }
def ElemLogsCardSaid : Prop := Claim7.holds Tryz.pinned (.plain (OpenSpec.ofChange elemLogsSpec)) elemLogsCard

/-- THE TIED CARD OF 'inequalitylaw02.ElemAdds'. -/
def elemAddsCard : Claim7 := { stood := { row := elemAddsRow, standIns := [], harness := (true, "61a317565c7440bf498fb091500446ad6ffbf976ee5826484c53f3c7afcd3613"), looks := false }, kinds := [], alts := [], laidByText := true, laidKinds := [.data], laidTests := true, laidLooks := .later }
def ElemAddsCardSaid : Prop := Claim7.holds Tryz.pinned (.plain (OpenSpec.ofChange elemAddsSpec)) elemAddsCard

/-- THE TIED CARD OF 'inequalitylaw02.ElemBack'. -/
def elemBackCard : Claim7 := { stood := { row := elemBackRow, standIns := [], harness := (true, "61a317565c7440bf498fb091500446ad6ffbf976ee5826484c53f3c7afcd3613"), looks := false }, kinds := [], alts := [], laidByText := true, laidKinds := [.data], laidTests := true, laidLooks := .later }
def ElemBackCardSaid : Prop := Claim7.holds Tryz.pinned (.plain (OpenSpec.ofChange elemBackSpec)) elemBackCard

/-- THE TIED CARD OF 'inequalitylaw02.ElemTwice'. -/
def elemTwiceCard : Claim7 := { stood := { row := elemTwiceRow, standIns := [], harness := (true, "61a317565c7440bf498fb091500446ad6ffbf976ee5826484c53f3c7afcd3613"), looks := false }, kinds := [], alts := [], laidByText := true, laidKinds := [.data], laidTests := true, laidLooks := .later }
def ElemTwiceCardSaid : Prop := Claim7.holds Tryz.pinned (.plain (OpenSpec.ofChange elemTwiceSpec)) elemTwiceCard

/-- THE TIED CARD OF 'inequalitylaw02.ElemRight'. -/
def elemRightCard : Claim7 := { stood := { row := elemRightRow, standIns := [], harness := (true, "61a317565c7440bf498fb091500446ad6ffbf976ee5826484c53f3c7afcd3613"), looks := false }, kinds := [], alts := [], laidByText := true, laidKinds := [.data], laidTests := true, laidLooks := .later }
def ElemRightCardSaid : Prop := Claim7.holds Tryz.pinned (.plain (OpenSpec.ofChange elemRightSpec)) elemRightCard

/-- THE TIED CARD OF 'inequalitylaw02.ElemBrackets'. -/
def elemBracketsCard : Claim7 := { stood := { row := elemBracketsRow, standIns := [], harness := (true, "61a317565c7440bf498fb091500446ad6ffbf976ee5826484c53f3c7afcd3613"), looks := false }, kinds := [], alts := [], laidByText := true, laidKinds := [.data], laidTests := true, laidLooks := .later }
def ElemBracketsCardSaid : Prop := Claim7.holds Tryz.pinned (.plain (OpenSpec.ofChange elemBracketsSpec)) elemBracketsCard

/-- THE SECOND FORM's CARD OF 'inequalitylaw02.ElemPi'. -/
def elemPiUptoCard : Claim7 := { stood := { row := elemPiUptoRow, standIns := [], harness := (true, "61a317565c7440bf498fb091500446ad6ffbf976ee5826484c53f3c7afcd3613"), looks := false }, kinds := [], alts := [], laidByText := true, laidKinds := [.data], laidTests := true, laidLooks := .later }
def ElemPiUptoCardSaid : Prop := Claim7.holds Tryz.pinned (.plain (OpenSpec.upto elemPiSpec)) elemPiUptoCard

/-- THE SECOND FORM's CARD OF 'inequalitylaw02.ElemTurns'. -/
def elemTurnsUptoCard : Claim7 := { stood := { row := elemTurnsUptoRow, standIns := [], harness := (true, "61a317565c7440bf498fb091500446ad6ffbf976ee5826484c53f3c7afcd3613"), looks := false }, kinds := [], alts := [], laidByText := true, laidKinds := [.data], laidTests := true, laidLooks := .later }
def ElemTurnsUptoCardSaid : Prop := Claim7.holds Tryz.pinned (.plain (OpenSpec.upto elemTurnsSpec)) elemTurnsUptoCard

/-- THE SECOND FORM's CARD OF 'inequalitytop.TopIdentities'. -/
def topIdentitiesUptoCard : Claim7 := { stood := { row := topIdentitiesUptoRow, standIns := [], harness := (true, "61a317565c7440bf498fb091500446ad6ffbf976ee5826484c53f3c7afcd3613"), looks := false }, kinds := [], alts := [], laidByText := true, laidKinds := [.data], laidTests := true, laidLooks := .later }
def TopIdentitiesUptoCardSaid : Prop := Claim7.holds Tryz.pinned (.plain (OpenSpec.upto topIdentitiesSpec)) topIdentitiesUptoCard

/-- THE SECOND FORM's CARD OF 'inequalitylaw02.ElemWidth'. -/
def elemWidthUptoCard : Claim7 := { stood := { row := elemWidthUptoRow, standIns := [], harness := (true, "61a317565c7440bf498fb091500446ad6ffbf976ee5826484c53f3c7afcd3613"), looks := false }, kinds := [], alts := [], laidByText := true, laidKinds := [.data], laidTests := true, laidLooks := .later }
def ElemWidthUptoCardSaid : Prop := Claim7.holds Tryz.pinned (.plain (OpenSpec.upto elemWidthSpec)) elemWidthUptoCard

/-- THE SECOND FORM's CARD OF 'inequalitylaw02.ElemPrecisions'. -/
def elemPrecisionsUptoCard : Claim7 := { stood := { row := elemPrecisionsUptoRow, standIns := [], harness := (true, "61a317565c7440bf498fb091500446ad6ffbf976ee5826484c53f3c7afcd3613"), looks := false }, kinds := [], alts := [], laidByText := true, laidKinds := [.data], laidTests := true, laidLooks := .later }
def ElemPrecisionsUptoCardSaid : Prop := Claim7.holds Tryz.pinned (.plain (OpenSpec.upto elemPrecisionsSpec)) elemPrecisionsUptoCard

/-- THE SECOND FORM's CARD OF 'inequalitylaw02.ElemOdd'. -/
def elemOddUptoCard : Claim7 := { stood := { row := elemOddUptoRow, standIns := [], harness := (true, "61a317565c7440bf498fb091500446ad6ffbf976ee5826484c53f3c7afcd3613"), looks := false }, kinds := [], alts := [], laidByText := true, laidKinds := [.data], laidTests := true, laidLooks := .later }
def ElemOddUptoCardSaid : Prop := Claim7.holds Tryz.pinned (.plain (OpenSpec.upto elemOddSpec)) elemOddUptoCard

/-- THE SECOND FORM's CARD OF 'inequalitylaw02.ElemOrder'. -/
def elemOrderUptoCard : Claim7 := { stood := { row := elemOrderUptoRow, standIns := [], harness := (true, "61a317565c7440bf498fb091500446ad6ffbf976ee5826484c53f3c7afcd3613"), looks := false }, kinds := [], alts := [], laidByText := true, laidKinds := [.data], laidTests := true, laidLooks := .later }
def ElemOrderUptoCardSaid : Prop := Claim7.holds Tryz.pinned (.plain (OpenSpec.upto elemOrderSpec)) elemOrderUptoCard

/-- THE SECOND FORM's CARD OF 'inequalitylaw02.ElemInverse'. -/
def elemInverseUptoCard : Claim7 := { stood := { row := elemInverseUptoRow, standIns := [], harness := (true, "61a317565c7440bf498fb091500446ad6ffbf976ee5826484c53f3c7afcd3613"), looks := false }, kinds := [], alts := [], laidByText := true, laidKinds := [.data], laidTests := true, laidLooks := .later }
def ElemInverseUptoCardSaid : Prop := Claim7.holds Tryz.pinned (.plain (OpenSpec.upto elemInverseSpec)) elemInverseUptoCard

/-- THE SECOND FORM's CARD OF 'inequalitylaw02.ElemCircle'. -/
def elemCircleUptoCard : Claim7 := { stood := { row := elemCircleUptoRow, standIns := [], harness := (true, "61a317565c7440bf498fb091500446ad6ffbf976ee5826484c53f3c7afcd3613"), looks := false }, kinds := [], alts := [], laidByText := true, laidKinds := [.data], laidTests := true, laidLooks := .later }
def ElemCircleUptoCardSaid : Prop := Claim7.holds Tryz.pinned (.plain (OpenSpec.upto elemCircleSpec)) elemCircleUptoCard

/-- THE SECOND FORM's CARD OF 'inequalitylaw02.ElemLogs'. -/
def elemLogsUptoCard : Claim7 := { stood := { row := elemLogsUptoRow, standIns := [], harness := (true, "61a317565c7440bf498fb091500446ad6ffbf976ee5826484c53f3c7afcd3613"), looks := false }, kinds := [], alts := [], laidByText := true, laidKinds := [.data], laidTests := true, laidLooks := .later }
def ElemLogsUptoCardSaid : Prop := Claim7.holds Tryz.pinned (.plain (OpenSpec.upto elemLogsSpec)) elemLogsUptoCard

/-- THE SECOND FORM's CARD OF 'inequalitylaw02.ElemAdds'. -/
def elemAddsUptoCard : Claim7 := { stood := { row := elemAddsUptoRow, standIns := [], harness := (true, "61a317565c7440bf498fb091500446ad6ffbf976ee5826484c53f3c7afcd3613"), looks := false }, kinds := [], alts := [], laidByText := true, laidKinds := [.data], laidTests := true, laidLooks := .later }
def ElemAddsUptoCardSaid : Prop := Claim7.holds Tryz.pinned (.plain (OpenSpec.upto elemAddsSpec)) elemAddsUptoCard

/-- THE SECOND FORM's CARD OF 'inequalitylaw02.ElemBack'. -/
def elemBackUptoCard : Claim7 := { stood := { row := elemBackUptoRow, standIns := [], harness := (true, "61a317565c7440bf498fb091500446ad6ffbf976ee5826484c53f3c7afcd3613"), looks := false }, kinds := [], alts := [], laidByText := true, laidKinds := [.data], laidTests := true, laidLooks := .later }
def ElemBackUptoCardSaid : Prop := Claim7.holds Tryz.pinned (.plain (OpenSpec.upto elemBackSpec)) elemBackUptoCard

/-- THE SECOND FORM's CARD OF 'inequalitylaw02.ElemTwice'. -/
def elemTwiceUptoCard : Claim7 := { stood := { row := elemTwiceUptoRow, standIns := [], harness := (true, "61a317565c7440bf498fb091500446ad6ffbf976ee5826484c53f3c7afcd3613"), looks := false }, kinds := [], alts := [], laidByText := true, laidKinds := [.data], laidTests := true, laidLooks := .later }
def ElemTwiceUptoCardSaid : Prop := Claim7.holds Tryz.pinned (.plain (OpenSpec.upto elemTwiceSpec)) elemTwiceUptoCard

/-- THE SECOND FORM's CARD OF 'inequalitylaw02.ElemRight'. -/
def elemRightUptoCard : Claim7 := { stood := { row := elemRightUptoRow, standIns := [], harness := (true, "61a317565c7440bf498fb091500446ad6ffbf976ee5826484c53f3c7afcd3613"), looks := false }, kinds := [], alts := [], laidByText := true, laidKinds := [.data], laidTests := true, laidLooks := .later }
def ElemRightUptoCardSaid : Prop := Claim7.holds Tryz.pinned (.plain (OpenSpec.upto elemRightSpec)) elemRightUptoCard

/-- THE SECOND FORM's CARD OF 'inequalitylaw02.ElemBrackets'. -/
def elemBracketsUptoCard : Claim7 := { stood := { row := elemBracketsUptoRow, standIns := [], harness := (true, "61a317565c7440bf498fb091500446ad6ffbf976ee5826484c53f3c7afcd3613"), looks := false }, kinds := [], alts := [], laidByText := true, laidKinds := [.data], laidTests := true, laidLooks := .later }
def ElemBracketsUptoCardSaid : Prop := Claim7.holds Tryz.pinned (.plain (OpenSpec.upto elemBracketsSpec)) elemBracketsUptoCard
end Rows
end Go.Proofs.YtfgephfneliimaaGreatDoor
