/- Closed facts that the card of ElemWidth asks, each by itself. -/
import Derived.Test.YtfgephfneliimaaGreatDoorZJp
set_option maxRecDepth 20000
namespace Go.Proofs.YtfgephfneliimaaGreatDoor
open Go Go.Abs Go.Num Go.RowKit Go.ChangeShapes Go.WideShapes Go.ChangeAt
theorem cElemWidthJ0 : (Rows.elemWidthUptoRow.wf (OpenSpec.ofChange (Rows.OpenSpec.upto Rows.elemWidthSpec).bare)) = true := by kernel_rfl
theorem cElemWidthJ3 : (Tryz.f6.params.all (Tryz.pinned.checked.prog.readableRec ·)) = true := by kernel_rfl
theorem cElemWidthJ4 : (namedTie Tryz.pinned.checked.prog Rows.elemWidthUptoRow.named (Rows.OpenSpec.upto Rows.elemWidthSpec).bare.vars) = true := by kernel_rfl
theorem cElemWidthJ5 : ((Rows.elemWidthUptoRow.stops == [])) = true := by kernel_rfl
theorem cElemWidthJ7 : ((Rows.elemWidthUptoRow.knobs == [])) = true := by kernel_rfl
theorem cElemWidthJ9 : ((Rows.elemWidthUptoRow.inPlace == Tryz.pinned.checked.prog.inPlace 6)) = true := by kernel_rfl
theorem cElemWidthJ10 : ((Rows.elemWidthUptoRow.unfollowed == Tryz.pinned.checked.prog.unfollowed 6)) = true := by kernel_rfl
theorem cElemWidthJ11 : ((Rows.elemWidthUptoRow.recurses == Tryz.pinned.checked.prog.recurses 6)) = true := by kernel_rfl
theorem cElemWidthJ12 : ((Rows.elemWidthUptoRow.named == Tryz.pinned.checked.prog.varsNamed 6)) = true := by kernel_rfl
theorem cElemWidthJ13 : ((Rows.elemWidthUptoRow.maps == (Tryz.f6.params.toList ++ (Rows.OpenSpec.upto Rows.elemWidthSpec).bare.plain.varTypes Tryz.pinned.checked.prog).any (Tryz.pinned.checked.prog.mapsRec ·))) = true := by kernel_rfl
theorem cElemWidthJ14 : ((Rows.elemWidthUptoRow.ifaces == (Tryz.f6.params.toList ++ (Rows.OpenSpec.upto Rows.elemWidthSpec).bare.plain.varTypes Tryz.pinned.checked.prog).any (Tryz.pinned.checked.prog.ifacesRec ·))) = true := by kernel_rfl
theorem cElemWidthJ15 : ((Rows.elemWidthUptoRow.mapsOut == Tryz.pinned.checked.prog.mapsAmong Tryz.f6.resultTypes.toList)) = true := by kernel_rfl
theorem cElemWidthJ16 : ((Rows.elemWidthUptoRow.loops == (Tryz.f6.params.toList ++ (Rows.OpenSpec.upto Rows.elemWidthSpec).bare.plain.varTypes Tryz.pinned.checked.prog).any (Tryz.pinned.checked.prog.loopsFrom ·))) = true := by kernel_rfl
theorem cElemWidthJ17 : ((Rows.elemWidthUptoRow.wideKeys == (Tryz.f6.params.toList ++ (Rows.OpenSpec.upto Rows.elemWidthSpec).bare.plain.varTypes Tryz.pinned.checked.prog ++ Tryz.f6.resultTypes.toList).any (Tryz.pinned.checked.prog.wideKeysFrom ·))) = true := by kernel_rfl
theorem cElemWidthJ18 : ((Rows.OpenSpec.upto Rows.elemWidthSpec).bare.vars.all (Tryz.pinned.checked.prog.varReadable ·)) = true := by kernel_rfl
theorem cElemWidthJ19 : (Tryz.f6.resultTypes.all (fun t => Tryz.pinned.checked.prog.readableRec t && decide (t < Tryz.pinned.checked.prog.types.size))) = true := by kernel_rfl
theorem cElemWidthJ20 : ((Rows.elemWidthUptoRow.ifacesOut == Tryz.f6.resultTypes.toList.any (Tryz.pinned.checked.prog.ifacesRec ·))) = true := by kernel_rfl
theorem cElemWidthJ21 : ((Rows.elemWidthUptoRow.loopsOut == Tryz.f6.resultTypes.toList.any (Tryz.pinned.checked.prog.loopsFrom ·))) = true := by kernel_rfl
theorem cElemWidthJ23 : (Rows.elemWidthUptoRow.shortTexts.isNone) = true := by kernel_rfl
theorem cElemWidthJ28 : ((Rows.elemWidthUptoRow.kinds == (if Rows.elemWidthUptoRow.domain.isEmpty then [] else Tryz.f6.params.toList.map fun t => match Tryz.pinned.checked.prog.underlying t with | some (.int k) => some k | _ => none))) = true := by kernel_rfl
theorem cElemWidthJ29 : ((Rows.elemWidthUptoRow.pinned == Rows.elemWidthUptoRow.pinnedBy)) = true := by kernel_rfl
theorem cElemWidthJ30 : ((Rows.elemWidthUptoRow.veiled == (Tryz.f6.params.toList ++ (Rows.OpenSpec.upto Rows.elemWidthSpec).bare.plain.varTypes Tryz.pinned.checked.prog ++ Tryz.f6.resultTypes.toList).any (Tryz.pinned.checked.prog.veiledRec ·))) = true := by kernel_rfl
theorem cElemWidthJ31 : (Rows.elemWidthUptoRow.veiledFits Tryz.pinned.checked.prog Tryz.f6.params.toList (Tryz.f6.params.toList ++ (Rows.OpenSpec.upto Rows.elemWidthSpec).bare.plain.varTypes Tryz.pinned.checked.prog ++ Tryz.f6.resultTypes.toList)) = true := by kernel_rfl
theorem cElemWidthJoined : joinedFacts Tryz.pinned.checked.prog 6 Tryz.f6 (Rows.OpenSpec.upto Rows.elemWidthSpec).bare Rows.elemWidthUptoRow = true := by
  unfold joinedFacts
  exact and2 (and2 (and2 (and2 (and2 (and2 (and2 (and2 (and2 (and2 (and2 (and2 (and2 (and2 (and2 (and2 (and2 (and2 (and2 (and2 (and2 (and2 (and2 (and2 (and2 (and2 (and2 (and2 (and2 (and2 (and2 cElemWidthJ0 jp1) jp2) cElemWidthJ3) cElemWidthJ4) cElemWidthJ5) jp6) cElemWidthJ7) jp8) cElemWidthJ9) cElemWidthJ10) cElemWidthJ11) cElemWidthJ12) cElemWidthJ13) cElemWidthJ14) cElemWidthJ15) cElemWidthJ16) cElemWidthJ17) cElemWidthJ18) cElemWidthJ19) cElemWidthJ20) cElemWidthJ21) jp22) cElemWidthJ23) jp24) jp25) jp26) jp27) cElemWidthJ28) cElemWidthJ29) cElemWidthJ30) cElemWidthJ31
theorem cElemWidthWf : Rows.elemWidthUptoRow.wfByText (Rows.OpenSpec.upto Rows.elemWidthSpec) = true := by kernel_rfl
theorem cElemWidthGoes : false = Rows.elemWidthUptoRow.goesBy Tryz.pinned.checked.prog := by kernel_rfl
end Go.Proofs.YtfgephfneliimaaGreatDoor
