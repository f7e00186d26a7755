/- Closed facts that the card of ElemLogs asks, each by itself. -/
import Derived.Test.YtfgephfneliimaaGreatDoorZJp
set_option maxRecDepth 20000
namespace Go.Proofs.YtfgephfneliimaaGreatDoor
open Go Go.Abs Go.Num Go.RowKit Go.ChangeShapes Go.WideShapes Go.ChangeAt
theorem cElemLogsJ0 : (Rows.elemLogsUptoRow.wf (OpenSpec.ofChange (Rows.OpenSpec.upto Rows.elemLogsSpec).bare)) = true := by kernel_rfl
theorem cElemLogsJ3 : (Tryz.f12.params.all (Tryz.pinned.checked.prog.readableRec ·)) = true := by kernel_rfl
theorem cElemLogsJ4 : (namedTie Tryz.pinned.checked.prog Rows.elemLogsUptoRow.named (Rows.OpenSpec.upto Rows.elemLogsSpec).bare.vars) = true := by kernel_rfl
theorem cElemLogsJ5 : ((Rows.elemLogsUptoRow.stops == [])) = true := by kernel_rfl
theorem cElemLogsJ7 : ((Rows.elemLogsUptoRow.knobs == [])) = true := by kernel_rfl
theorem cElemLogsJ9 : ((Rows.elemLogsUptoRow.inPlace == Tryz.pinned.checked.prog.inPlace 12)) = true := by kernel_rfl
theorem cElemLogsJ10 : ((Rows.elemLogsUptoRow.unfollowed == Tryz.pinned.checked.prog.unfollowed 12)) = true := by kernel_rfl
theorem cElemLogsJ11 : ((Rows.elemLogsUptoRow.recurses == Tryz.pinned.checked.prog.recurses 12)) = true := by kernel_rfl
theorem cElemLogsJ12 : ((Rows.elemLogsUptoRow.named == Tryz.pinned.checked.prog.varsNamed 12)) = true := by kernel_rfl
theorem cElemLogsJ13 : ((Rows.elemLogsUptoRow.maps == (Tryz.f12.params.toList ++ (Rows.OpenSpec.upto Rows.elemLogsSpec).bare.plain.varTypes Tryz.pinned.checked.prog).any (Tryz.pinned.checked.prog.mapsRec ·))) = true := by kernel_rfl
theorem cElemLogsJ14 : ((Rows.elemLogsUptoRow.ifaces == (Tryz.f12.params.toList ++ (Rows.OpenSpec.upto Rows.elemLogsSpec).bare.plain.varTypes Tryz.pinned.checked.prog).any (Tryz.pinned.checked.prog.ifacesRec ·))) = true := by kernel_rfl
theorem cElemLogsJ15 : ((Rows.elemLogsUptoRow.mapsOut == Tryz.pinned.checked.prog.mapsAmong Tryz.f12.resultTypes.toList)) = true := by kernel_rfl
theorem cElemLogsJ16 : ((Rows.elemLogsUptoRow.loops == (Tryz.f12.params.toList ++ (Rows.OpenSpec.upto Rows.elemLogsSpec).bare.plain.varTypes Tryz.pinned.checked.prog).any (Tryz.pinned.checked.prog.loopsFrom ·))) = true := by kernel_rfl
theorem cElemLogsJ17 : ((Rows.elemLogsUptoRow.wideKeys == (Tryz.f12.params.toList ++ (Rows.OpenSpec.upto Rows.elemLogsSpec).bare.plain.varTypes Tryz.pinned.checked.prog ++ Tryz.f12.resultTypes.toList).any (Tryz.pinned.checked.prog.wideKeysFrom ·))) = true := by kernel_rfl
theorem cElemLogsJ18 : ((Rows.OpenSpec.upto Rows.elemLogsSpec).bare.vars.all (Tryz.pinned.checked.prog.varReadable ·)) = true := by kernel_rfl
theorem cElemLogsJ19 : (Tryz.f12.resultTypes.all (fun t => Tryz.pinned.checked.prog.readableRec t && decide (t < Tryz.pinned.checked.prog.types.size))) = true := by kernel_rfl
theorem cElemLogsJ20 : ((Rows.elemLogsUptoRow.ifacesOut == Tryz.f12.resultTypes.toList.any (Tryz.pinned.checked.prog.ifacesRec ·))) = true := by kernel_rfl
theorem cElemLogsJ21 : ((Rows.elemLogsUptoRow.loopsOut == Tryz.f12.resultTypes.toList.any (Tryz.pinned.checked.prog.loopsFrom ·))) = true := by kernel_rfl
theorem cElemLogsJ23 : (Rows.elemLogsUptoRow.shortTexts.isNone) = true := by kernel_rfl
theorem cElemLogsJ28 : ((Rows.elemLogsUptoRow.kinds == (if Rows.elemLogsUptoRow.domain.isEmpty then [] else Tryz.f12.params.toList.map fun t => match Tryz.pinned.checked.prog.underlying t with | some (.int k) => some k | _ => none))) = true := by kernel_rfl
theorem cElemLogsJ29 : ((Rows.elemLogsUptoRow.pinned == Rows.elemLogsUptoRow.pinnedBy)) = true := by kernel_rfl
theorem cElemLogsJ30 : ((Rows.elemLogsUptoRow.veiled == (Tryz.f12.params.toList ++ (Rows.OpenSpec.upto Rows.elemLogsSpec).bare.plain.varTypes Tryz.pinned.checked.prog ++ Tryz.f12.resultTypes.toList).any (Tryz.pinned.checked.prog.veiledRec ·))) = true := by kernel_rfl
theorem cElemLogsJ31 : (Rows.elemLogsUptoRow.veiledFits Tryz.pinned.checked.prog Tryz.f12.params.toList (Tryz.f12.params.toList ++ (Rows.OpenSpec.upto Rows.elemLogsSpec).bare.plain.varTypes Tryz.pinned.checked.prog ++ Tryz.f12.resultTypes.toList)) = true := by kernel_rfl
theorem cElemLogsJoined : joinedFacts Tryz.pinned.checked.prog 12 Tryz.f12 (Rows.OpenSpec.upto Rows.elemLogsSpec).bare Rows.elemLogsUptoRow = true := by
  unfold joinedFacts
  exact and2 (and2 (and2 (and2 (and2 (and2 (and2 (and2 (and2 (and2 (and2 (and2 (and2 (and2 (and2 (and2 (and2 (and2 (and2 (and2 (and2 (and2 (and2 (and2 (and2 (and2 (and2 (and2 (and2 (and2 (and2 cElemLogsJ0 jp1) jp2) cElemLogsJ3) cElemLogsJ4) cElemLogsJ5) jp6) cElemLogsJ7) jp8) cElemLogsJ9) cElemLogsJ10) cElemLogsJ11) cElemLogsJ12) cElemLogsJ13) cElemLogsJ14) cElemLogsJ15) cElemLogsJ16) cElemLogsJ17) cElemLogsJ18) cElemLogsJ19) cElemLogsJ20) cElemLogsJ21) jp22) cElemLogsJ23) jp24) jp25) jp26) jp27) cElemLogsJ28) cElemLogsJ29) cElemLogsJ30) cElemLogsJ31
theorem cElemLogsWf : Rows.elemLogsUptoRow.wfByText (Rows.OpenSpec.upto Rows.elemLogsSpec) = true := by kernel_rfl
theorem cElemLogsGoes : false = Rows.elemLogsUptoRow.goesBy Tryz.pinned.checked.prog := by kernel_rfl
end Go.Proofs.YtfgephfneliimaaGreatDoor
