/- Closed facts that the card of ElemCircle asks, each by itself. -/
import Derived.Test.YtfgephfneliimaaGreatDoorZJp
set_option maxRecDepth 20000
namespace Go.Proofs.YtfgephfneliimaaGreatDoor
open Go Go.Abs Go.Num Go.RowKit Go.ChangeShapes Go.WideShapes Go.ChangeAt
theorem cElemCircleJ0 : (Rows.elemCircleUptoRow.wf (OpenSpec.ofChange (Rows.OpenSpec.upto Rows.elemCircleSpec).bare)) = true := by kernel_rfl
theorem cElemCircleJ3 : (Tryz.f11.params.all (Tryz.pinned.checked.prog.readableRec ·)) = true := by kernel_rfl
theorem cElemCircleJ4 : (namedTie Tryz.pinned.checked.prog Rows.elemCircleUptoRow.named (Rows.OpenSpec.upto Rows.elemCircleSpec).bare.vars) = true := by kernel_rfl
theorem cElemCircleJ5 : ((Rows.elemCircleUptoRow.stops == [])) = true := by kernel_rfl
theorem cElemCircleJ7 : ((Rows.elemCircleUptoRow.knobs == [])) = true := by kernel_rfl
theorem cElemCircleJ9 : ((Rows.elemCircleUptoRow.inPlace == Tryz.pinned.checked.prog.inPlace 11)) = true := by kernel_rfl
theorem cElemCircleJ10 : ((Rows.elemCircleUptoRow.unfollowed == Tryz.pinned.checked.prog.unfollowed 11)) = true := by kernel_rfl
theorem cElemCircleJ11 : ((Rows.elemCircleUptoRow.recurses == Tryz.pinned.checked.prog.recurses 11)) = true := by kernel_rfl
theorem cElemCircleJ12 : ((Rows.elemCircleUptoRow.named == Tryz.pinned.checked.prog.varsNamed 11)) = true := by kernel_rfl
theorem cElemCircleJ13 : ((Rows.elemCircleUptoRow.maps == (Tryz.f11.params.toList ++ (Rows.OpenSpec.upto Rows.elemCircleSpec).bare.plain.varTypes Tryz.pinned.checked.prog).any (Tryz.pinned.checked.prog.mapsRec ·))) = true := by kernel_rfl
theorem cElemCircleJ14 : ((Rows.elemCircleUptoRow.ifaces == (Tryz.f11.params.toList ++ (Rows.OpenSpec.upto Rows.elemCircleSpec).bare.plain.varTypes Tryz.pinned.checked.prog).any (Tryz.pinned.checked.prog.ifacesRec ·))) = true := by kernel_rfl
theorem cElemCircleJ15 : ((Rows.elemCircleUptoRow.mapsOut == Tryz.pinned.checked.prog.mapsAmong Tryz.f11.resultTypes.toList)) = true := by kernel_rfl
theorem cElemCircleJ16 : ((Rows.elemCircleUptoRow.loops == (Tryz.f11.params.toList ++ (Rows.OpenSpec.upto Rows.elemCircleSpec).bare.plain.varTypes Tryz.pinned.checked.prog).any (Tryz.pinned.checked.prog.loopsFrom ·))) = true := by kernel_rfl
theorem cElemCircleJ17 : ((Rows.elemCircleUptoRow.wideKeys == (Tryz.f11.params.toList ++ (Rows.OpenSpec.upto Rows.elemCircleSpec).bare.plain.varTypes Tryz.pinned.checked.prog ++ Tryz.f11.resultTypes.toList).any (Tryz.pinned.checked.prog.wideKeysFrom ·))) = true := by kernel_rfl
theorem cElemCircleJ18 : ((Rows.OpenSpec.upto Rows.elemCircleSpec).bare.vars.all (Tryz.pinned.checked.prog.varReadable ·)) = true := by kernel_rfl
theorem cElemCircleJ19 : (Tryz.f11.resultTypes.all (fun t => Tryz.pinned.checked.prog.readableRec t && decide (t < Tryz.pinned.checked.prog.types.size))) = true := by kernel_rfl
theorem cElemCircleJ20 : ((Rows.elemCircleUptoRow.ifacesOut == Tryz.f11.resultTypes.toList.any (Tryz.pinned.checked.prog.ifacesRec ·))) = true := by kernel_rfl
theorem cElemCircleJ21 : ((Rows.elemCircleUptoRow.loopsOut == Tryz.f11.resultTypes.toList.any (Tryz.pinned.checked.prog.loopsFrom ·))) = true := by kernel_rfl
theorem cElemCircleJ23 : (Rows.elemCircleUptoRow.shortTexts.isNone) = true := by kernel_rfl
theorem cElemCircleJ28 : ((Rows.elemCircleUptoRow.kinds == (if Rows.elemCircleUptoRow.domain.isEmpty then [] else Tryz.f11.params.toList.map fun t => match Tryz.pinned.checked.prog.underlying t with | some (.int k) => some k | _ => none))) = true := by kernel_rfl
theorem cElemCircleJ29 : ((Rows.elemCircleUptoRow.pinned == Rows.elemCircleUptoRow.pinnedBy)) = true := by kernel_rfl
theorem cElemCircleJ30 : ((Rows.elemCircleUptoRow.veiled == (Tryz.f11.params.toList ++ (Rows.OpenSpec.upto Rows.elemCircleSpec).bare.plain.varTypes Tryz.pinned.checked.prog ++ Tryz.f11.resultTypes.toList).any (Tryz.pinned.checked.prog.veiledRec ·))) = true := by kernel_rfl
theorem cElemCircleJ31 : (Rows.elemCircleUptoRow.veiledFits Tryz.pinned.checked.prog Tryz.f11.params.toList (Tryz.f11.params.toList ++ (Rows.OpenSpec.upto Rows.elemCircleSpec).bare.plain.varTypes Tryz.pinned.checked.prog ++ Tryz.f11.resultTypes.toList)) = true := by kernel_rfl
theorem cElemCircleJoined : joinedFacts Tryz.pinned.checked.prog 11 Tryz.f11 (Rows.OpenSpec.upto Rows.elemCircleSpec).bare Rows.elemCircleUptoRow = true := by
  unfold joinedFacts
  exact and2 (and2 (and2 (and2 (and2 (and2 (and2 (and2 (and2 (and2 (and2 (and2 (and2 (and2 (and2 (and2 (and2 (and2 (and2 (and2 (and2 (and2 (and2 (and2 (and2 (and2 (and2 (and2 (and2 (and2 (and2 cElemCircleJ0 jp1) jp2) cElemCircleJ3) cElemCircleJ4) cElemCircleJ5) jp6) cElemCircleJ7) jp8) cElemCircleJ9) cElemCircleJ10) cElemCircleJ11) cElemCircleJ12) cElemCircleJ13) cElemCircleJ14) cElemCircleJ15) cElemCircleJ16) cElemCircleJ17) cElemCircleJ18) cElemCircleJ19) cElemCircleJ20) cElemCircleJ21) jp22) cElemCircleJ23) jp24) jp25) jp26) jp27) cElemCircleJ28) cElemCircleJ29) cElemCircleJ30) cElemCircleJ31
theorem cElemCircleWf : Rows.elemCircleUptoRow.wfByText (Rows.OpenSpec.upto Rows.elemCircleSpec) = true := by kernel_rfl
theorem cElemCircleGoes : false = Rows.elemCircleUptoRow.goesBy Tryz.pinned.checked.prog := by kernel_rfl
end Go.Proofs.YtfgephfneliimaaGreatDoor
