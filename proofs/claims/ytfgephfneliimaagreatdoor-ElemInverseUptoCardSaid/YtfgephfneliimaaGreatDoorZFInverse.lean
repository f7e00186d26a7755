/- Closed facts that the card of ElemInverse asks, each by itself. -/
import Derived.Test.YtfgephfneliimaaGreatDoorZJp
set_option maxRecDepth 20000
namespace Go.Proofs.YtfgephfneliimaaGreatDoor
open Go Go.Abs Go.Num Go.RowKit Go.ChangeShapes Go.WideShapes Go.ChangeAt
theorem cElemInverseJ0 : (Rows.elemInverseUptoRow.wf (OpenSpec.ofChange (Rows.OpenSpec.upto Rows.elemInverseSpec).bare)) = true := by kernel_rfl
theorem cElemInverseJ3 : (Tryz.f10.params.all (Tryz.pinned.checked.prog.readableRec ·)) = true := by kernel_rfl
theorem cElemInverseJ4 : (namedTie Tryz.pinned.checked.prog Rows.elemInverseUptoRow.named (Rows.OpenSpec.upto Rows.elemInverseSpec).bare.vars) = true := by kernel_rfl
theorem cElemInverseJ5 : ((Rows.elemInverseUptoRow.stops == [])) = true := by kernel_rfl
theorem cElemInverseJ7 : ((Rows.elemInverseUptoRow.knobs == [])) = true := by kernel_rfl
theorem cElemInverseJ9 : ((Rows.elemInverseUptoRow.inPlace == Tryz.pinned.checked.prog.inPlace 10)) = true := by kernel_rfl
theorem cElemInverseJ10 : ((Rows.elemInverseUptoRow.unfollowed == Tryz.pinned.checked.prog.unfollowed 10)) = true := by kernel_rfl
theorem cElemInverseJ11 : ((Rows.elemInverseUptoRow.recurses == Tryz.pinned.checked.prog.recurses 10)) = true := by kernel_rfl
theorem cElemInverseJ12 : ((Rows.elemInverseUptoRow.named == Tryz.pinned.checked.prog.varsNamed 10)) = true := by kernel_rfl
theorem cElemInverseJ13 : ((Rows.elemInverseUptoRow.maps == (Tryz.f10.params.toList ++ (Rows.OpenSpec.upto Rows.elemInverseSpec).bare.plain.varTypes Tryz.pinned.checked.prog).any (Tryz.pinned.checked.prog.mapsRec ·))) = true := by kernel_rfl
theorem cElemInverseJ14 : ((Rows.elemInverseUptoRow.ifaces == (Tryz.f10.params.toList ++ (Rows.OpenSpec.upto Rows.elemInverseSpec).bare.plain.varTypes Tryz.pinned.checked.prog).any (Tryz.pinned.checked.prog.ifacesRec ·))) = true := by kernel_rfl
theorem cElemInverseJ15 : ((Rows.elemInverseUptoRow.mapsOut == Tryz.pinned.checked.prog.mapsAmong Tryz.f10.resultTypes.toList)) = true := by kernel_rfl
theorem cElemInverseJ16 : ((Rows.elemInverseUptoRow.loops == (Tryz.f10.params.toList ++ (Rows.OpenSpec.upto Rows.elemInverseSpec).bare.plain.varTypes Tryz.pinned.checked.prog).any (Tryz.pinned.checked.prog.loopsFrom ·))) = true := by kernel_rfl
theorem cElemInverseJ17 : ((Rows.elemInverseUptoRow.wideKeys == (Tryz.f10.params.toList ++ (Rows.OpenSpec.upto Rows.elemInverseSpec).bare.plain.varTypes Tryz.pinned.checked.prog ++ Tryz.f10.resultTypes.toList).any (Tryz.pinned.checked.prog.wideKeysFrom ·))) = true := by kernel_rfl
theorem cElemInverseJ18 : ((Rows.OpenSpec.upto Rows.elemInverseSpec).bare.vars.all (Tryz.pinned.checked.prog.varReadable ·)) = true := by kernel_rfl
theorem cElemInverseJ19 : (Tryz.f10.resultTypes.all (fun t => Tryz.pinned.checked.prog.readableRec t && decide (t < Tryz.pinned.checked.prog.types.size))) = true := by kernel_rfl
theorem cElemInverseJ20 : ((Rows.elemInverseUptoRow.ifacesOut == Tryz.f10.resultTypes.toList.any (Tryz.pinned.checked.prog.ifacesRec ·))) = true := by kernel_rfl
theorem cElemInverseJ21 : ((Rows.elemInverseUptoRow.loopsOut == Tryz.f10.resultTypes.toList.any (Tryz.pinned.checked.prog.loopsFrom ·))) = true := by kernel_rfl
theorem cElemInverseJ23 : (Rows.elemInverseUptoRow.shortTexts.isNone) = true := by kernel_rfl
theorem cElemInverseJ28 : ((Rows.elemInverseUptoRow.kinds == (if Rows.elemInverseUptoRow.domain.isEmpty then [] else Tryz.f10.params.toList.map fun t => match Tryz.pinned.checked.prog.underlying t with | some (.int k) => some k | _ => none))) = true := by kernel_rfl
theorem cElemInverseJ29 : ((Rows.elemInverseUptoRow.pinned == Rows.elemInverseUptoRow.pinnedBy)) = true := by kernel_rfl
theorem cElemInverseJ30 : ((Rows.elemInverseUptoRow.veiled == (Tryz.f10.params.toList ++ (Rows.OpenSpec.upto Rows.elemInverseSpec).bare.plain.varTypes Tryz.pinned.checked.prog ++ Tryz.f10.resultTypes.toList).any (Tryz.pinned.checked.prog.veiledRec ·))) = true := by kernel_rfl
theorem cElemInverseJ31 : (Rows.elemInverseUptoRow.veiledFits Tryz.pinned.checked.prog Tryz.f10.params.toList (Tryz.f10.params.toList ++ (Rows.OpenSpec.upto Rows.elemInverseSpec).bare.plain.varTypes Tryz.pinned.checked.prog ++ Tryz.f10.resultTypes.toList)) = true := by kernel_rfl
theorem cElemInverseJoined : joinedFacts Tryz.pinned.checked.prog 10 Tryz.f10 (Rows.OpenSpec.upto Rows.elemInverseSpec).bare Rows.elemInverseUptoRow = true := by
  unfold joinedFacts
  exact and2 (and2 (and2 (and2 (and2 (and2 (and2 (and2 (and2 (and2 (and2 (and2 (and2 (and2 (and2 (and2 (and2 (and2 (and2 (and2 (and2 (and2 (and2 (and2 (and2 (and2 (and2 (and2 (and2 (and2 (and2 cElemInverseJ0 jp1) jp2) cElemInverseJ3) cElemInverseJ4) cElemInverseJ5) jp6) cElemInverseJ7) jp8) cElemInverseJ9) cElemInverseJ10) cElemInverseJ11) cElemInverseJ12) cElemInverseJ13) cElemInverseJ14) cElemInverseJ15) cElemInverseJ16) cElemInverseJ17) cElemInverseJ18) cElemInverseJ19) cElemInverseJ20) cElemInverseJ21) jp22) cElemInverseJ23) jp24) jp25) jp26) jp27) cElemInverseJ28) cElemInverseJ29) cElemInverseJ30) cElemInverseJ31
theorem cElemInverseWf : Rows.elemInverseUptoRow.wfByText (Rows.OpenSpec.upto Rows.elemInverseSpec) = true := by kernel_rfl
theorem cElemInverseGoes : false = Rows.elemInverseUptoRow.goesBy Tryz.pinned.checked.prog := by kernel_rfl
end Go.Proofs.YtfgephfneliimaaGreatDoor
