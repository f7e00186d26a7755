/- Closed facts that the card of ElemPrecisions asks, each by itself. -/
import Derived.Test.YtfgephfneliimaaGreatDoorZJp
set_option maxRecDepth 20000
namespace Go.Proofs.YtfgephfneliimaaGreatDoor
open Go Go.Abs Go.Num Go.RowKit Go.ChangeShapes Go.WideShapes Go.ChangeAt
theorem cElemPrecisionsJ0 : (Rows.elemPrecisionsUptoRow.wf (OpenSpec.ofChange (Rows.OpenSpec.upto Rows.elemPrecisionsSpec).bare)) = true := by kernel_rfl
theorem cElemPrecisionsJ3 : (Tryz.f7.params.all (Tryz.pinned.checked.prog.readableRec ·)) = true := by kernel_rfl
theorem cElemPrecisionsJ4 : (namedTie Tryz.pinned.checked.prog Rows.elemPrecisionsUptoRow.named (Rows.OpenSpec.upto Rows.elemPrecisionsSpec).bare.vars) = true := by kernel_rfl
theorem cElemPrecisionsJ5 : ((Rows.elemPrecisionsUptoRow.stops == [])) = true := by kernel_rfl
theorem cElemPrecisionsJ7 : ((Rows.elemPrecisionsUptoRow.knobs == [])) = true := by kernel_rfl
theorem cElemPrecisionsJ9 : ((Rows.elemPrecisionsUptoRow.inPlace == Tryz.pinned.checked.prog.inPlace 7)) = true := by kernel_rfl
theorem cElemPrecisionsJ10 : ((Rows.elemPrecisionsUptoRow.unfollowed == Tryz.pinned.checked.prog.unfollowed 7)) = true := by kernel_rfl
theorem cElemPrecisionsJ11 : ((Rows.elemPrecisionsUptoRow.recurses == Tryz.pinned.checked.prog.recurses 7)) = true := by kernel_rfl
theorem cElemPrecisionsJ12 : ((Rows.elemPrecisionsUptoRow.named == Tryz.pinned.checked.prog.varsNamed 7)) = true := by kernel_rfl
theorem cElemPrecisionsJ13 : ((Rows.elemPrecisionsUptoRow.maps == (Tryz.f7.params.toList ++ (Rows.OpenSpec.upto Rows.elemPrecisionsSpec).bare.plain.varTypes Tryz.pinned.checked.prog).any (Tryz.pinned.checked.prog.mapsRec ·))) = true := by kernel_rfl
theorem cElemPrecisionsJ14 : ((Rows.elemPrecisionsUptoRow.ifaces == (Tryz.f7.params.toList ++ (Rows.OpenSpec.upto Rows.elemPrecisionsSpec).bare.plain.varTypes Tryz.pinned.checked.prog).any (Tryz.pinned.checked.prog.ifacesRec ·))) = true := by kernel_rfl
theorem cElemPrecisionsJ15 : ((Rows.elemPrecisionsUptoRow.mapsOut == Tryz.pinned.checked.prog.mapsAmong Tryz.f7.resultTypes.toList)) = true := by kernel_rfl
theorem cElemPrecisionsJ16 : ((Rows.elemPrecisionsUptoRow.loops == (Tryz.f7.params.toList ++ (Rows.OpenSpec.upto Rows.elemPrecisionsSpec).bare.plain.varTypes Tryz.pinned.checked.prog).any (Tryz.pinned.checked.prog.loopsFrom ·))) = true := by kernel_rfl
theorem cElemPrecisionsJ17 : ((Rows.elemPrecisionsUptoRow.wideKeys == (Tryz.f7.params.toList ++ (Rows.OpenSpec.upto Rows.elemPrecisionsSpec).bare.plain.varTypes Tryz.pinned.checked.prog ++ Tryz.f7.resultTypes.toList).any (Tryz.pinned.checked.prog.wideKeysFrom ·))) = true := by kernel_rfl
theorem cElemPrecisionsJ18 : ((Rows.OpenSpec.upto Rows.elemPrecisionsSpec).bare.vars.all (Tryz.pinned.checked.prog.varReadable ·)) = true := by kernel_rfl
theorem cElemPrecisionsJ19 : (Tryz.f7.resultTypes.all (fun t => Tryz.pinned.checked.prog.readableRec t && decide (t < Tryz.pinned.checked.prog.types.size))) = true := by kernel_rfl
theorem cElemPrecisionsJ20 : ((Rows.elemPrecisionsUptoRow.ifacesOut == Tryz.f7.resultTypes.toList.any (Tryz.pinned.checked.prog.ifacesRec ·))) = true := by kernel_rfl
theorem cElemPrecisionsJ21 : ((Rows.elemPrecisionsUptoRow.loopsOut == Tryz.f7.resultTypes.toList.any (Tryz.pinned.checked.prog.loopsFrom ·))) = true := by kernel_rfl
theorem cElemPrecisionsJ23 : (Rows.elemPrecisionsUptoRow.shortTexts.isNone) = true := by kernel_rfl
theorem cElemPrecisionsJ28 : ((Rows.elemPrecisionsUptoRow.kinds == (if Rows.elemPrecisionsUptoRow.domain.isEmpty then [] else Tryz.f7.params.toList.map fun t => match Tryz.pinned.checked.prog.underlying t with | some (.int k) => some k | _ => none))) = true := by kernel_rfl
theorem cElemPrecisionsJ29 : ((Rows.elemPrecisionsUptoRow.pinned == Rows.elemPrecisionsUptoRow.pinnedBy)) = true := by kernel_rfl
theorem cElemPrecisionsJ30 : ((Rows.elemPrecisionsUptoRow.veiled == (Tryz.f7.params.toList ++ (Rows.OpenSpec.upto Rows.elemPrecisionsSpec).bare.plain.varTypes Tryz.pinned.checked.prog ++ Tryz.f7.resultTypes.toList).any (Tryz.pinned.checked.prog.veiledRec ·))) = true := by kernel_rfl
theorem cElemPrecisionsJ31 : (Rows.elemPrecisionsUptoRow.veiledFits Tryz.pinned.checked.prog Tryz.f7.params.toList (Tryz.f7.params.toList ++ (Rows.OpenSpec.upto Rows.elemPrecisionsSpec).bare.plain.varTypes Tryz.pinned.checked.prog ++ Tryz.f7.resultTypes.toList)) = true := by kernel_rfl
theorem cElemPrecisionsJoined : joinedFacts Tryz.pinned.checked.prog 7 Tryz.f7 (Rows.OpenSpec.upto Rows.elemPrecisionsSpec).bare Rows.elemPrecisionsUptoRow = true := by
  unfold joinedFacts
  exact and2 (and2 (and2 (and2 (and2 (and2 (and2 (and2 (and2 (and2 (and2 (and2 (and2 (and2 (and2 (and2 (and2 (and2 (and2 (and2 (and2 (and2 (and2 (and2 (and2 (and2 (and2 (and2 (and2 (and2 (and2 cElemPrecisionsJ0 jp1) jp2) cElemPrecisionsJ3) cElemPrecisionsJ4) cElemPrecisionsJ5) jp6) cElemPrecisionsJ7) jp8) cElemPrecisionsJ9) cElemPrecisionsJ10) cElemPrecisionsJ11) cElemPrecisionsJ12) cElemPrecisionsJ13) cElemPrecisionsJ14) cElemPrecisionsJ15) cElemPrecisionsJ16) cElemPrecisionsJ17) cElemPrecisionsJ18) cElemPrecisionsJ19) cElemPrecisionsJ20) cElemPrecisionsJ21) jp22) cElemPrecisionsJ23) jp24) jp25) jp26) jp27) cElemPrecisionsJ28) cElemPrecisionsJ29) cElemPrecisionsJ30) cElemPrecisionsJ31
theorem cElemPrecisionsWf : Rows.elemPrecisionsUptoRow.wfByText (Rows.OpenSpec.upto Rows.elemPrecisionsSpec) = true := by kernel_rfl
theorem cElemPrecisionsGoes : false = Rows.elemPrecisionsUptoRow.goesBy Tryz.pinned.checked.prog := by kernel_rfl
end Go.Proofs.YtfgephfneliimaaGreatDoor
