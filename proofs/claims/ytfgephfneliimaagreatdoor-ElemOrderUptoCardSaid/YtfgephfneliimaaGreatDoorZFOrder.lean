/- Closed facts that the card of ElemOrder asks, each by itself. -/
import Derived.Test.YtfgephfneliimaaGreatDoorZJp
set_option maxRecDepth 20000
namespace Go.Proofs.YtfgephfneliimaaGreatDoor
open Go Go.Abs Go.Num Go.RowKit Go.ChangeShapes Go.WideShapes Go.ChangeAt
theorem cElemOrderJ0 : (Rows.elemOrderUptoRow.wf (OpenSpec.ofChange (Rows.OpenSpec.upto Rows.elemOrderSpec).bare)) = true := by kernel_rfl
theorem cElemOrderJ3 : (Tryz.f9.params.all (Tryz.pinned.checked.prog.readableRec ·)) = true := by kernel_rfl
theorem cElemOrderJ4 : (namedTie Tryz.pinned.checked.prog Rows.elemOrderUptoRow.named (Rows.OpenSpec.upto Rows.elemOrderSpec).bare.vars) = true := by kernel_rfl
theorem cElemOrderJ5 : ((Rows.elemOrderUptoRow.stops == [])) = true := by kernel_rfl
theorem cElemOrderJ7 : ((Rows.elemOrderUptoRow.knobs == [])) = true := by kernel_rfl
theorem cElemOrderJ9 : ((Rows.elemOrderUptoRow.inPlace == Tryz.pinned.checked.prog.inPlace 9)) = true := by kernel_rfl
theorem cElemOrderJ10 : ((Rows.elemOrderUptoRow.unfollowed == Tryz.pinned.checked.prog.unfollowed 9)) = true := by kernel_rfl
theorem cElemOrderJ11 : ((Rows.elemOrderUptoRow.recurses == Tryz.pinned.checked.prog.recurses 9)) = true := by kernel_rfl
theorem cElemOrderJ12 : ((Rows.elemOrderUptoRow.named == Tryz.pinned.checked.prog.varsNamed 9)) = true := by kernel_rfl
theorem cElemOrderJ13 : ((Rows.elemOrderUptoRow.maps == (Tryz.f9.params.toList ++ (Rows.OpenSpec.upto Rows.elemOrderSpec).bare.plain.varTypes Tryz.pinned.checked.prog).any (Tryz.pinned.checked.prog.mapsRec ·))) = true := by kernel_rfl
theorem cElemOrderJ14 : ((Rows.elemOrderUptoRow.ifaces == (Tryz.f9.params.toList ++ (Rows.OpenSpec.upto Rows.elemOrderSpec).bare.plain.varTypes Tryz.pinned.checked.prog).any (Tryz.pinned.checked.prog.ifacesRec ·))) = true := by kernel_rfl
theorem cElemOrderJ15 : ((Rows.elemOrderUptoRow.mapsOut == Tryz.pinned.checked.prog.mapsAmong Tryz.f9.resultTypes.toList)) = true := by kernel_rfl
theorem cElemOrderJ16 : ((Rows.elemOrderUptoRow.loops == (Tryz.f9.params.toList ++ (Rows.OpenSpec.upto Rows.elemOrderSpec).bare.plain.varTypes Tryz.pinned.checked.prog).any (Tryz.pinned.checked.prog.loopsFrom ·))) = true := by kernel_rfl
theorem cElemOrderJ17 : ((Rows.elemOrderUptoRow.wideKeys == (Tryz.f9.params.toList ++ (Rows.OpenSpec.upto Rows.elemOrderSpec).bare.plain.varTypes Tryz.pinned.checked.prog ++ Tryz.f9.resultTypes.toList).any (Tryz.pinned.checked.prog.wideKeysFrom ·))) = true := by kernel_rfl
theorem cElemOrderJ18 : ((Rows.OpenSpec.upto Rows.elemOrderSpec).bare.vars.all (Tryz.pinned.checked.prog.varReadable ·)) = true := by kernel_rfl
theorem cElemOrderJ19 : (Tryz.f9.resultTypes.all (fun t => Tryz.pinned.checked.prog.readableRec t && decide (t < Tryz.pinned.checked.prog.types.size))) = true := by kernel_rfl
theorem cElemOrderJ20 : ((Rows.elemOrderUptoRow.ifacesOut == Tryz.f9.resultTypes.toList.any (Tryz.pinned.checked.prog.ifacesRec ·))) = true := by kernel_rfl
theorem cElemOrderJ21 : ((Rows.elemOrderUptoRow.loopsOut == Tryz.f9.resultTypes.toList.any (Tryz.pinned.checked.prog.loopsFrom ·))) = true := by kernel_rfl
theorem cElemOrderJ23 : (Rows.elemOrderUptoRow.shortTexts.isNone) = true := by kernel_rfl
theorem cElemOrderJ28 : ((Rows.elemOrderUptoRow.kinds == (if Rows.elemOrderUptoRow.domain.isEmpty then [] else Tryz.f9.params.toList.map fun t => match Tryz.pinned.checked.prog.underlying t with | some (.int k) => some k | _ => none))) = true := by kernel_rfl
theorem cElemOrderJ29 : ((Rows.elemOrderUptoRow.pinned == Rows.elemOrderUptoRow.pinnedBy)) = true := by kernel_rfl
theorem cElemOrderJ30 : ((Rows.elemOrderUptoRow.veiled == (Tryz.f9.params.toList ++ (Rows.OpenSpec.upto Rows.elemOrderSpec).bare.plain.varTypes Tryz.pinned.checked.prog ++ Tryz.f9.resultTypes.toList).any (Tryz.pinned.checked.prog.veiledRec ·))) = true := by kernel_rfl
theorem cElemOrderJ31 : (Rows.elemOrderUptoRow.veiledFits Tryz.pinned.checked.prog Tryz.f9.params.toList (Tryz.f9.params.toList ++ (Rows.OpenSpec.upto Rows.elemOrderSpec).bare.plain.varTypes Tryz.pinned.checked.prog ++ Tryz.f9.resultTypes.toList)) = true := by kernel_rfl
theorem cElemOrderJoined : joinedFacts Tryz.pinned.checked.prog 9 Tryz.f9 (Rows.OpenSpec.upto Rows.elemOrderSpec).bare Rows.elemOrderUptoRow = true := by
  unfold joinedFacts
  exact and2 (and2 (and2 (and2 (and2 (and2 (and2 (and2 (and2 (and2 (and2 (and2 (and2 (and2 (and2 (and2 (and2 (and2 (and2 (and2 (and2 (and2 (and2 (and2 (and2 (and2 (and2 (and2 (and2 (and2 (and2 cElemOrderJ0 jp1) jp2) cElemOrderJ3) cElemOrderJ4) cElemOrderJ5) jp6) cElemOrderJ7) jp8) cElemOrderJ9) cElemOrderJ10) cElemOrderJ11) cElemOrderJ12) cElemOrderJ13) cElemOrderJ14) cElemOrderJ15) cElemOrderJ16) cElemOrderJ17) cElemOrderJ18) cElemOrderJ19) cElemOrderJ20) cElemOrderJ21) jp22) cElemOrderJ23) jp24) jp25) jp26) jp27) cElemOrderJ28) cElemOrderJ29) cElemOrderJ30) cElemOrderJ31
theorem cElemOrderWf : Rows.elemOrderUptoRow.wfByText (Rows.OpenSpec.upto Rows.elemOrderSpec) = true := by kernel_rfl
theorem cElemOrderGoes : false = Rows.elemOrderUptoRow.goesBy Tryz.pinned.checked.prog := by kernel_rfl
end Go.Proofs.YtfgephfneliimaaGreatDoor
