/- Closed facts that the card of ElemPi asks, each by itself. -/
import Derived.Test.YtfgephfneliimaaGreatDoorZJp
set_option maxRecDepth 20000
namespace Go.Proofs.YtfgephfneliimaaGreatDoor
open Go Go.Abs Go.Num Go.RowKit Go.ChangeShapes Go.WideShapes Go.ChangeAt
theorem cElemPiJ0 : (Rows.elemPiRow.wf (OpenSpec.ofChange (OpenSpec.ofChange Rows.elemPiSpec).bare)) = true := by kernel_rfl
theorem cElemPiJ3 : (Tryz.f3.params.all (Tryz.pinned.checked.prog.readableRec ·)) = true := by kernel_rfl
theorem cElemPiJ4 : (namedTie Tryz.pinned.checked.prog Rows.elemPiRow.named (OpenSpec.ofChange Rows.elemPiSpec).bare.vars) = true := by kernel_rfl
theorem cElemPiJ5 : ((Rows.elemPiRow.stops == [])) = true := by kernel_rfl
theorem cElemPiJ7 : ((Rows.elemPiRow.knobs == [])) = true := by kernel_rfl
theorem cElemPiJ9 : ((Rows.elemPiRow.inPlace == Tryz.pinned.checked.prog.inPlace 3)) = true := by kernel_rfl
theorem cElemPiJ10 : ((Rows.elemPiRow.unfollowed == Tryz.pinned.checked.prog.unfollowed 3)) = true := by kernel_rfl
theorem cElemPiJ11 : ((Rows.elemPiRow.recurses == Tryz.pinned.checked.prog.recurses 3)) = true := by kernel_rfl
theorem cElemPiJ12 : ((Rows.elemPiRow.named == Tryz.pinned.checked.prog.varsNamed 3)) = true := by kernel_rfl
theorem cElemPiJ13 : ((Rows.elemPiRow.maps == (Tryz.f3.params.toList ++ (OpenSpec.ofChange Rows.elemPiSpec).bare.plain.varTypes Tryz.pinned.checked.prog).any (Tryz.pinned.checked.prog.mapsRec ·))) = true := by kernel_rfl
theorem cElemPiJ14 : ((Rows.elemPiRow.ifaces == (Tryz.f3.params.toList ++ (OpenSpec.ofChange Rows.elemPiSpec).bare.plain.varTypes Tryz.pinned.checked.prog).any (Tryz.pinned.checked.prog.ifacesRec ·))) = true := by kernel_rfl
theorem cElemPiJ15 : ((Rows.elemPiRow.mapsOut == Tryz.pinned.checked.prog.mapsAmong Tryz.f3.resultTypes.toList)) = true := by kernel_rfl
theorem cElemPiJ16 : ((Rows.elemPiRow.loops == (Tryz.f3.params.toList ++ (OpenSpec.ofChange Rows.elemPiSpec).bare.plain.varTypes Tryz.pinned.checked.prog).any (Tryz.pinned.checked.prog.loopsFrom ·))) = true := by kernel_rfl
theorem cElemPiJ17 : ((Rows.elemPiRow.wideKeys == (Tryz.f3.params.toList ++ (OpenSpec.ofChange Rows.elemPiSpec).bare.plain.varTypes Tryz.pinned.checked.prog ++ Tryz.f3.resultTypes.toList).any (Tryz.pinned.checked.prog.wideKeysFrom ·))) = true := by kernel_rfl
theorem cElemPiJ18 : ((OpenSpec.ofChange Rows.elemPiSpec).bare.vars.all (Tryz.pinned.checked.prog.varReadable ·)) = true := by kernel_rfl
theorem cElemPiJ19 : (Tryz.f3.resultTypes.all (fun t => Tryz.pinned.checked.prog.readableRec t && decide (t < Tryz.pinned.checked.prog.types.size))) = true := by kernel_rfl
theorem cElemPiJ20 : ((Rows.elemPiRow.ifacesOut == Tryz.f3.resultTypes.toList.any (Tryz.pinned.checked.prog.ifacesRec ·))) = true := by kernel_rfl
theorem cElemPiJ21 : ((Rows.elemPiRow.loopsOut == Tryz.f3.resultTypes.toList.any (Tryz.pinned.checked.prog.loopsFrom ·))) = true := by kernel_rfl
theorem cElemPiJ23 : (Rows.elemPiRow.shortTexts.isNone) = true := by kernel_rfl
theorem cElemPiJ28 : ((Rows.elemPiRow.kinds == (if Rows.elemPiRow.domain.isEmpty then [] else Tryz.f3.params.toList.map fun t => match Tryz.pinned.checked.prog.underlying t with | some (.int k) => some k | _ => none))) = true := by kernel_rfl
theorem cElemPiJ29 : ((Rows.elemPiRow.pinned == Rows.elemPiRow.pinnedBy)) = true := by kernel_rfl
theorem cElemPiJ30 : ((Rows.elemPiRow.veiled == (Tryz.f3.params.toList ++ (OpenSpec.ofChange Rows.elemPiSpec).bare.plain.varTypes Tryz.pinned.checked.prog ++ Tryz.f3.resultTypes.toList).any (Tryz.pinned.checked.prog.veiledRec ·))) = true := by kernel_rfl
theorem cElemPiJ31 : (Rows.elemPiRow.veiledFits Tryz.pinned.checked.prog Tryz.f3.params.toList (Tryz.f3.params.toList ++ (OpenSpec.ofChange Rows.elemPiSpec).bare.plain.varTypes Tryz.pinned.checked.prog ++ Tryz.f3.resultTypes.toList)) = true := by kernel_rfl
theorem cElemPiJoined : joinedFacts Tryz.pinned.checked.prog 3 Tryz.f3 (OpenSpec.ofChange Rows.elemPiSpec).bare Rows.elemPiRow = true := by
  unfold joinedFacts
  exact and2 (and2 (and2 (and2 (and2 (and2 (and2 (and2 (and2 (and2 (and2 (and2 (and2 (and2 (and2 (and2 (and2 (and2 (and2 (and2 (and2 (and2 (and2 (and2 (and2 (and2 (and2 (and2 (and2 (and2 (and2 cElemPiJ0 jp1) jp2) cElemPiJ3) cElemPiJ4) cElemPiJ5) jp6) cElemPiJ7) jp8) cElemPiJ9) cElemPiJ10) cElemPiJ11) cElemPiJ12) cElemPiJ13) cElemPiJ14) cElemPiJ15) cElemPiJ16) cElemPiJ17) cElemPiJ18) cElemPiJ19) cElemPiJ20) cElemPiJ21) jp22) cElemPiJ23) jp24) jp25) jp26) jp27) cElemPiJ28) cElemPiJ29) cElemPiJ30) cElemPiJ31
theorem cElemPiWf : Rows.elemPiRow.wfByText (OpenSpec.ofChange Rows.elemPiSpec) = true := by kernel_rfl
theorem cElemPiGoes : false = Rows.elemPiRow.goesBy Tryz.pinned.checked.prog := by kernel_rfl
end Go.Proofs.YtfgephfneliimaaGreatDoor
