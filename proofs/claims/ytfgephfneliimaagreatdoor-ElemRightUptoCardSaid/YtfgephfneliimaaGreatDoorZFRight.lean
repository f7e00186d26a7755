/- Closed facts that the card of ElemRight asks, each by itself. -/
import Derived.Test.YtfgephfneliimaaGreatDoorZJp
set_option maxRecDepth 20000
namespace Go.Proofs.YtfgephfneliimaaGreatDoor
open Go Go.Abs Go.Num Go.RowKit Go.ChangeShapes Go.WideShapes Go.ChangeAt
theorem cElemRightJ0 : (Rows.elemRightUptoRow.wf (OpenSpec.ofChange (Rows.OpenSpec.upto Rows.elemRightSpec).bare)) = true := by kernel_rfl
theorem cElemRightJ3 : (Tryz.f16.params.all (Tryz.pinned.checked.prog.readableRec ·)) = true := by kernel_rfl
theorem cElemRightJ4 : (namedTie Tryz.pinned.checked.prog Rows.elemRightUptoRow.named (Rows.OpenSpec.upto Rows.elemRightSpec).bare.vars) = true := by kernel_rfl
theorem cElemRightJ5 : ((Rows.elemRightUptoRow.stops == [])) = true := by kernel_rfl
theorem cElemRightJ7 : ((Rows.elemRightUptoRow.knobs == [])) = true := by kernel_rfl
theorem cElemRightJ9 : ((Rows.elemRightUptoRow.inPlace == Tryz.pinned.checked.prog.inPlace 16)) = true := by kernel_rfl
theorem cElemRightJ10 : ((Rows.elemRightUptoRow.unfollowed == Tryz.pinned.checked.prog.unfollowed 16)) = true := by kernel_rfl
theorem cElemRightJ11 : ((Rows.elemRightUptoRow.recurses == Tryz.pinned.checked.prog.recurses 16)) = true := by kernel_rfl
theorem cElemRightJ12 : ((Rows.elemRightUptoRow.named == Tryz.pinned.checked.prog.varsNamed 16)) = true := by kernel_rfl
theorem cElemRightJ13 : ((Rows.elemRightUptoRow.maps == (Tryz.f16.params.toList ++ (Rows.OpenSpec.upto Rows.elemRightSpec).bare.plain.varTypes Tryz.pinned.checked.prog).any (Tryz.pinned.checked.prog.mapsRec ·))) = true := by kernel_rfl
theorem cElemRightJ14 : ((Rows.elemRightUptoRow.ifaces == (Tryz.f16.params.toList ++ (Rows.OpenSpec.upto Rows.elemRightSpec).bare.plain.varTypes Tryz.pinned.checked.prog).any (Tryz.pinned.checked.prog.ifacesRec ·))) = true := by kernel_rfl
theorem cElemRightJ15 : ((Rows.elemRightUptoRow.mapsOut == Tryz.pinned.checked.prog.mapsAmong Tryz.f16.resultTypes.toList)) = true := by kernel_rfl
theorem cElemRightJ16 : ((Rows.elemRightUptoRow.loops == (Tryz.f16.params.toList ++ (Rows.OpenSpec.upto Rows.elemRightSpec).bare.plain.varTypes Tryz.pinned.checked.prog).any (Tryz.pinned.checked.prog.loopsFrom ·))) = true := by kernel_rfl
theorem cElemRightJ17 : ((Rows.elemRightUptoRow.wideKeys == (Tryz.f16.params.toList ++ (Rows.OpenSpec.upto Rows.elemRightSpec).bare.plain.varTypes Tryz.pinned.checked.prog ++ Tryz.f16.resultTypes.toList).any (Tryz.pinned.checked.prog.wideKeysFrom ·))) = true := by kernel_rfl
theorem cElemRightJ18 : ((Rows.OpenSpec.upto Rows.elemRightSpec).bare.vars.all (Tryz.pinned.checked.prog.varReadable ·)) = true := by kernel_rfl
theorem cElemRightJ19 : (Tryz.f16.resultTypes.all (fun t => Tryz.pinned.checked.prog.readableRec t && decide (t < Tryz.pinned.checked.prog.types.size))) = true := by kernel_rfl
theorem cElemRightJ20 : ((Rows.elemRightUptoRow.ifacesOut == Tryz.f16.resultTypes.toList.any (Tryz.pinned.checked.prog.ifacesRec ·))) = true := by kernel_rfl
theorem cElemRightJ21 : ((Rows.elemRightUptoRow.loopsOut == Tryz.f16.resultTypes.toList.any (Tryz.pinned.checked.prog.loopsFrom ·))) = true := by kernel_rfl
theorem cElemRightJ23 : (Rows.elemRightUptoRow.shortTexts.isNone) = true := by kernel_rfl
theorem cElemRightJ28 : ((Rows.elemRightUptoRow.kinds == (if Rows.elemRightUptoRow.domain.isEmpty then [] else Tryz.f16.params.toList.map fun t => match Tryz.pinned.checked.prog.underlying t with | some (.int k) => some k | _ => none))) = true := by kernel_rfl
theorem cElemRightJ29 : ((Rows.elemRightUptoRow.pinned == Rows.elemRightUptoRow.pinnedBy)) = true := by kernel_rfl
theorem cElemRightJ30 : ((Rows.elemRightUptoRow.veiled == (Tryz.f16.params.toList ++ (Rows.OpenSpec.upto Rows.elemRightSpec).bare.plain.varTypes Tryz.pinned.checked.prog ++ Tryz.f16.resultTypes.toList).any (Tryz.pinned.checked.prog.veiledRec ·))) = true := by kernel_rfl
theorem cElemRightJ31 : (Rows.elemRightUptoRow.veiledFits Tryz.pinned.checked.prog Tryz.f16.params.toList (Tryz.f16.params.toList ++ (Rows.OpenSpec.upto Rows.elemRightSpec).bare.plain.varTypes Tryz.pinned.checked.prog ++ Tryz.f16.resultTypes.toList)) = true := by kernel_rfl
theorem cElemRightJoined : joinedFacts Tryz.pinned.checked.prog 16 Tryz.f16 (Rows.OpenSpec.upto Rows.elemRightSpec).bare Rows.elemRightUptoRow = true := by
  unfold joinedFacts
  exact and2 (and2 (and2 (and2 (and2 (and2 (and2 (and2 (and2 (and2 (and2 (and2 (and2 (and2 (and2 (and2 (and2 (and2 (and2 (and2 (and2 (and2 (and2 (and2 (and2 (and2 (and2 (and2 (and2 (and2 (and2 cElemRightJ0 jp1) jp2) cElemRightJ3) cElemRightJ4) cElemRightJ5) jp6) cElemRightJ7) jp8) cElemRightJ9) cElemRightJ10) cElemRightJ11) cElemRightJ12) cElemRightJ13) cElemRightJ14) cElemRightJ15) cElemRightJ16) cElemRightJ17) cElemRightJ18) cElemRightJ19) cElemRightJ20) cElemRightJ21) jp22) cElemRightJ23) jp24) jp25) jp26) jp27) cElemRightJ28) cElemRightJ29) cElemRightJ30) cElemRightJ31
theorem cElemRightWf : Rows.elemRightUptoRow.wfByText (Rows.OpenSpec.upto Rows.elemRightSpec) = true := by kernel_rfl
theorem cElemRightGoes : false = Rows.elemRightUptoRow.goesBy Tryz.pinned.checked.prog := by kernel_rfl
end Go.Proofs.YtfgephfneliimaaGreatDoor
