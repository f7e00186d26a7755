/- Closed facts that the card of ElemOdd asks, each by itself. -/
import Derived.Test.YtfgephfneliimaaGreatDoorZJp
set_option maxRecDepth 20000
namespace Go.Proofs.YtfgephfneliimaaGreatDoor
open Go Go.Abs Go.Num Go.RowKit Go.ChangeShapes Go.WideShapes Go.ChangeAt
theorem cElemOddJ0 : (Rows.elemOddUptoRow.wf (OpenSpec.ofChange (Rows.OpenSpec.upto Rows.elemOddSpec).bare)) = true := by kernel_rfl
theorem cElemOddJ3 : (Tryz.f8.params.all (Tryz.pinned.checked.prog.readableRec ·)) = true := by kernel_rfl
theorem cElemOddJ4 : (namedTie Tryz.pinned.checked.prog Rows.elemOddUptoRow.named (Rows.OpenSpec.upto Rows.elemOddSpec).bare.vars) = true := by kernel_rfl
theorem cElemOddJ5 : ((Rows.elemOddUptoRow.stops == [])) = true := by kernel_rfl
theorem cElemOddJ7 : ((Rows.elemOddUptoRow.knobs == [])) = true := by kernel_rfl
theorem cElemOddJ9 : ((Rows.elemOddUptoRow.inPlace == Tryz.pinned.checked.prog.inPlace 8)) = true := by kernel_rfl
theorem cElemOddJ10 : ((Rows.elemOddUptoRow.unfollowed == Tryz.pinned.checked.prog.unfollowed 8)) = true := by kernel_rfl
theorem cElemOddJ11 : ((Rows.elemOddUptoRow.recurses == Tryz.pinned.checked.prog.recurses 8)) = true := by kernel_rfl
theorem cElemOddJ12 : ((Rows.elemOddUptoRow.named == Tryz.pinned.checked.prog.varsNamed 8)) = true := by kernel_rfl
theorem cElemOddJ13 : ((Rows.elemOddUptoRow.maps == (Tryz.f8.params.toList ++ (Rows.OpenSpec.upto Rows.elemOddSpec).bare.plain.varTypes Tryz.pinned.checked.prog).any (Tryz.pinned.checked.prog.mapsRec ·))) = true := by kernel_rfl
theorem cElemOddJ14 : ((Rows.elemOddUptoRow.ifaces == (Tryz.f8.params.toList ++ (Rows.OpenSpec.upto Rows.elemOddSpec).bare.plain.varTypes Tryz.pinned.checked.prog).any (Tryz.pinned.checked.prog.ifacesRec ·))) = true := by kernel_rfl
theorem cElemOddJ15 : ((Rows.elemOddUptoRow.mapsOut == Tryz.pinned.checked.prog.mapsAmong Tryz.f8.resultTypes.toList)) = true := by kernel_rfl
theorem cElemOddJ16 : ((Rows.elemOddUptoRow.loops == (Tryz.f8.params.toList ++ (Rows.OpenSpec.upto Rows.elemOddSpec).bare.plain.varTypes Tryz.pinned.checked.prog).any (Tryz.pinned.checked.prog.loopsFrom ·))) = true := by kernel_rfl
theorem cElemOddJ17 : ((Rows.elemOddUptoRow.wideKeys == (Tryz.f8.params.toList ++ (Rows.OpenSpec.upto Rows.elemOddSpec).bare.plain.varTypes Tryz.pinned.checked.prog ++ Tryz.f8.resultTypes.toList).any (Tryz.pinned.checked.prog.wideKeysFrom ·))) = true := by kernel_rfl
theorem cElemOddJ18 : ((Rows.OpenSpec.upto Rows.elemOddSpec).bare.vars.all (Tryz.pinned.checked.prog.varReadable ·)) = true := by kernel_rfl
theorem cElemOddJ19 : (Tryz.f8.resultTypes.all (fun t => Tryz.pinned.checked.prog.readableRec t && decide (t < Tryz.pinned.checked.prog.types.size))) = true := by kernel_rfl
theorem cElemOddJ20 : ((Rows.elemOddUptoRow.ifacesOut == Tryz.f8.resultTypes.toList.any (Tryz.pinned.checked.prog.ifacesRec ·))) = true := by kernel_rfl
theorem cElemOddJ21 : ((Rows.elemOddUptoRow.loopsOut == Tryz.f8.resultTypes.toList.any (Tryz.pinned.checked.prog.loopsFrom ·))) = true := by kernel_rfl
theorem cElemOddJ23 : (Rows.elemOddUptoRow.shortTexts.isNone) = true := by kernel_rfl
theorem cElemOddJ28 : ((Rows.elemOddUptoRow.kinds == (if Rows.elemOddUptoRow.domain.isEmpty then [] else Tryz.f8.params.toList.map fun t => match Tryz.pinned.checked.prog.underlying t with | some (.int k) => some k | _ => none))) = true := by kernel_rfl
theorem cElemOddJ29 : ((Rows.elemOddUptoRow.pinned == Rows.elemOddUptoRow.pinnedBy)) = true := by kernel_rfl
theorem cElemOddJ30 : ((Rows.elemOddUptoRow.veiled == (Tryz.f8.params.toList ++ (Rows.OpenSpec.upto Rows.elemOddSpec).bare.plain.varTypes Tryz.pinned.checked.prog ++ Tryz.f8.resultTypes.toList).any (Tryz.pinned.checked.prog.veiledRec ·))) = true := by kernel_rfl
theorem cElemOddJ31 : (Rows.elemOddUptoRow.veiledFits Tryz.pinned.checked.prog Tryz.f8.params.toList (Tryz.f8.params.toList ++ (Rows.OpenSpec.upto Rows.elemOddSpec).bare.plain.varTypes Tryz.pinned.checked.prog ++ Tryz.f8.resultTypes.toList)) = true := by kernel_rfl
theorem cElemOddJoined : joinedFacts Tryz.pinned.checked.prog 8 Tryz.f8 (Rows.OpenSpec.upto Rows.elemOddSpec).bare Rows.elemOddUptoRow = true := by
  unfold joinedFacts
  exact and2 (and2 (and2 (and2 (and2 (and2 (and2 (and2 (and2 (and2 (and2 (and2 (and2 (and2 (and2 (and2 (and2 (and2 (and2 (and2 (and2 (and2 (and2 (and2 (and2 (and2 (and2 (and2 (and2 (and2 (and2 cElemOddJ0 jp1) jp2) cElemOddJ3) cElemOddJ4) cElemOddJ5) jp6) cElemOddJ7) jp8) cElemOddJ9) cElemOddJ10) cElemOddJ11) cElemOddJ12) cElemOddJ13) cElemOddJ14) cElemOddJ15) cElemOddJ16) cElemOddJ17) cElemOddJ18) cElemOddJ19) cElemOddJ20) cElemOddJ21) jp22) cElemOddJ23) jp24) jp25) jp26) jp27) cElemOddJ28) cElemOddJ29) cElemOddJ30) cElemOddJ31
theorem cElemOddWf : Rows.elemOddUptoRow.wfByText (Rows.OpenSpec.upto Rows.elemOddSpec) = true := by kernel_rfl
theorem cElemOddGoes : false = Rows.elemOddUptoRow.goesBy Tryz.pinned.checked.prog := by kernel_rfl
end Go.Proofs.YtfgephfneliimaaGreatDoor
