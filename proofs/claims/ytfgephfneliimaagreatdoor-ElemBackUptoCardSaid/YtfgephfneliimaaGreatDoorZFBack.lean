/- Closed facts that the card of ElemBack asks, each by itself. -/
import Derived.Test.YtfgephfneliimaaGreatDoorZJp
set_option maxRecDepth 20000
namespace Go.Proofs.YtfgephfneliimaaGreatDoor
open Go Go.Abs Go.Num Go.RowKit Go.ChangeShapes Go.WideShapes Go.ChangeAt
theorem cElemBackJ0 : (Rows.elemBackUptoRow.wf (OpenSpec.ofChange (Rows.OpenSpec.upto Rows.elemBackSpec).bare)) = true := by kernel_rfl
theorem cElemBackJ3 : (Tryz.f14.params.all (Tryz.pinned.checked.prog.readableRec ·)) = true := by kernel_rfl
theorem cElemBackJ4 : (namedTie Tryz.pinned.checked.prog Rows.elemBackUptoRow.named (Rows.OpenSpec.upto Rows.elemBackSpec).bare.vars) = true := by kernel_rfl
theorem cElemBackJ5 : ((Rows.elemBackUptoRow.stops == [])) = true := by kernel_rfl
theorem cElemBackJ7 : ((Rows.elemBackUptoRow.knobs == [])) = true := by kernel_rfl
theorem cElemBackJ9 : ((Rows.elemBackUptoRow.inPlace == Tryz.pinned.checked.prog.inPlace 14)) = true := by kernel_rfl
theorem cElemBackJ10 : ((Rows.elemBackUptoRow.unfollowed == Tryz.pinned.checked.prog.unfollowed 14)) = true := by kernel_rfl
theorem cElemBackJ11 : ((Rows.elemBackUptoRow.recurses == Tryz.pinned.checked.prog.recurses 14)) = true := by kernel_rfl
theorem cElemBackJ12 : ((Rows.elemBackUptoRow.named == Tryz.pinned.checked.prog.varsNamed 14)) = true := by kernel_rfl
theorem cElemBackJ13 : ((Rows.elemBackUptoRow.maps == (Tryz.f14.params.toList ++ (Rows.OpenSpec.upto Rows.elemBackSpec).bare.plain.varTypes Tryz.pinned.checked.prog).any (Tryz.pinned.checked.prog.mapsRec ·))) = true := by kernel_rfl
theorem cElemBackJ14 : ((Rows.elemBackUptoRow.ifaces == (Tryz.f14.params.toList ++ (Rows.OpenSpec.upto Rows.elemBackSpec).bare.plain.varTypes Tryz.pinned.checked.prog).any (Tryz.pinned.checked.prog.ifacesRec ·))) = true := by kernel_rfl
theorem cElemBackJ15 : ((Rows.elemBackUptoRow.mapsOut == Tryz.pinned.checked.prog.mapsAmong Tryz.f14.resultTypes.toList)) = true := by kernel_rfl
theorem cElemBackJ16 : ((Rows.elemBackUptoRow.loops == (Tryz.f14.params.toList ++ (Rows.OpenSpec.upto Rows.elemBackSpec).bare.plain.varTypes Tryz.pinned.checked.prog).any (Tryz.pinned.checked.prog.loopsFrom ·))) = true := by kernel_rfl
theorem cElemBackJ17 : ((Rows.elemBackUptoRow.wideKeys == (Tryz.f14.params.toList ++ (Rows.OpenSpec.upto Rows.elemBackSpec).bare.plain.varTypes Tryz.pinned.checked.prog ++ Tryz.f14.resultTypes.toList).any (Tryz.pinned.checked.prog.wideKeysFrom ·))) = true := by kernel_rfl
theorem cElemBackJ18 : ((Rows.OpenSpec.upto Rows.elemBackSpec).bare.vars.all (Tryz.pinned.checked.prog.varReadable ·)) = true := by kernel_rfl
theorem cElemBackJ19 : (Tryz.f14.resultTypes.all (fun t => Tryz.pinned.checked.prog.readableRec t && decide (t < Tryz.pinned.checked.prog.types.size))) = true := by kernel_rfl
theorem cElemBackJ20 : ((Rows.elemBackUptoRow.ifacesOut == Tryz.f14.resultTypes.toList.any (Tryz.pinned.checked.prog.ifacesRec ·))) = true := by kernel_rfl
theorem cElemBackJ21 : ((Rows.elemBackUptoRow.loopsOut == Tryz.f14.resultTypes.toList.any (Tryz.pinned.checked.prog.loopsFrom ·))) = true := by kernel_rfl
theorem cElemBackJ23 : (Rows.elemBackUptoRow.shortTexts.isNone) = true := by kernel_rfl
theorem cElemBackJ28 : ((Rows.elemBackUptoRow.kinds == (if Rows.elemBackUptoRow.domain.isEmpty then [] else Tryz.f14.params.toList.map fun t => match Tryz.pinned.checked.prog.underlying t with | some (.int k) => some k | _ => none))) = true := by kernel_rfl
theorem cElemBackJ29 : ((Rows.elemBackUptoRow.pinned == Rows.elemBackUptoRow.pinnedBy)) = true := by kernel_rfl
theorem cElemBackJ30 : ((Rows.elemBackUptoRow.veiled == (Tryz.f14.params.toList ++ (Rows.OpenSpec.upto Rows.elemBackSpec).bare.plain.varTypes Tryz.pinned.checked.prog ++ Tryz.f14.resultTypes.toList).any (Tryz.pinned.checked.prog.veiledRec ·))) = true := by kernel_rfl
theorem cElemBackJ31 : (Rows.elemBackUptoRow.veiledFits Tryz.pinned.checked.prog Tryz.f14.params.toList (Tryz.f14.params.toList ++ (Rows.OpenSpec.upto Rows.elemBackSpec).bare.plain.varTypes Tryz.pinned.checked.prog ++ Tryz.f14.resultTypes.toList)) = true := by kernel_rfl
theorem cElemBackJoined : joinedFacts Tryz.pinned.checked.prog 14 Tryz.f14 (Rows.OpenSpec.upto Rows.elemBackSpec).bare Rows.elemBackUptoRow = true := by
  unfold joinedFacts
  exact and2 (and2 (and2 (and2 (and2 (and2 (and2 (and2 (and2 (and2 (and2 (and2 (and2 (and2 (and2 (and2 (and2 (and2 (and2 (and2 (and2 (and2 (and2 (and2 (and2 (and2 (and2 (and2 (and2 (and2 (and2 cElemBackJ0 jp1) jp2) cElemBackJ3) cElemBackJ4) cElemBackJ5) jp6) cElemBackJ7) jp8) cElemBackJ9) cElemBackJ10) cElemBackJ11) cElemBackJ12) cElemBackJ13) cElemBackJ14) cElemBackJ15) cElemBackJ16) cElemBackJ17) cElemBackJ18) cElemBackJ19) cElemBackJ20) cElemBackJ21) jp22) cElemBackJ23) jp24) jp25) jp26) jp27) cElemBackJ28) cElemBackJ29) cElemBackJ30) cElemBackJ31
theorem cElemBackWf : Rows.elemBackUptoRow.wfByText (Rows.OpenSpec.upto Rows.elemBackSpec) = true := by kernel_rfl
theorem cElemBackGoes : false = Rows.elemBackUptoRow.goesBy Tryz.pinned.checked.prog := by kernel_rfl
end Go.Proofs.YtfgephfneliimaaGreatDoor
