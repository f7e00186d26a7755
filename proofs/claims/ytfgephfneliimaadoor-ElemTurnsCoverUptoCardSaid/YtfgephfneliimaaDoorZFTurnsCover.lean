/- Closed facts that the card of ElemTurnsCover asks, each by itself. -/
import Derived.Test.YtfgephfneliimaaDoorZJp
set_option maxRecDepth 20000
namespace Go.Proofs.YtfgephfneliimaaDoor
open Go Go.Abs Go.Num Go.RowKit Go.ChangeShapes Go.WideShapes Go.ChangeAt
theorem cElemTurnsCoverJ0 : (Rows.elemTurnsCoverUptoRow.wf (OpenSpec.ofChange (Rows.OpenSpec.upto Rows.elemTurnsCoverSpec).bare)) = true := by kernel_rfl
theorem cElemTurnsCoverJ3 : (Tryd.f5.params.all (Tryd.pinned.checked.prog.readableRec ·)) = true := by kernel_rfl
theorem cElemTurnsCoverJ4 : (namedTie Tryd.pinned.checked.prog Rows.elemTurnsCoverUptoRow.named (Rows.OpenSpec.upto Rows.elemTurnsCoverSpec).bare.vars) = true := by kernel_rfl
theorem cElemTurnsCoverJ5 : ((Rows.elemTurnsCoverUptoRow.stops == [])) = true := by kernel_rfl
theorem cElemTurnsCoverJ7 : ((Rows.elemTurnsCoverUptoRow.knobs == [])) = true := by kernel_rfl
theorem cElemTurnsCoverJ9 : ((Rows.elemTurnsCoverUptoRow.inPlace == Tryd.pinned.checked.prog.inPlace 5)) = true := by kernel_rfl
theorem cElemTurnsCoverJ10 : ((Rows.elemTurnsCoverUptoRow.unfollowed == Tryd.pinned.checked.prog.unfollowed 5)) = true := by kernel_rfl
theorem cElemTurnsCoverJ11 : ((Rows.elemTurnsCoverUptoRow.recurses == Tryd.pinned.checked.prog.recurses 5)) = true := by kernel_rfl
theorem cElemTurnsCoverJ12 : ((Rows.elemTurnsCoverUptoRow.named == Tryd.pinned.checked.prog.varsNamed 5)) = true := by kernel_rfl
theorem cElemTurnsCoverJ13 : ((Rows.elemTurnsCoverUptoRow.maps == (Tryd.f5.params.toList ++ (Rows.OpenSpec.upto Rows.elemTurnsCoverSpec).bare.plain.varTypes Tryd.pinned.checked.prog).any (Tryd.pinned.checked.prog.mapsRec ·))) = true := by kernel_rfl
theorem cElemTurnsCoverJ14 : ((Rows.elemTurnsCoverUptoRow.ifaces == (Tryd.f5.params.toList ++ (Rows.OpenSpec.upto Rows.elemTurnsCoverSpec).bare.plain.varTypes Tryd.pinned.checked.prog).any (Tryd.pinned.checked.prog.ifacesRec ·))) = true := by kernel_rfl
theorem cElemTurnsCoverJ15 : ((Rows.elemTurnsCoverUptoRow.mapsOut == Tryd.pinned.checked.prog.mapsAmong Tryd.f5.resultTypes.toList)) = true := by kernel_rfl
theorem cElemTurnsCoverJ16 : ((Rows.elemTurnsCoverUptoRow.loops == (Tryd.f5.params.toList ++ (Rows.OpenSpec.upto Rows.elemTurnsCoverSpec).bare.plain.varTypes Tryd.pinned.checked.prog).any (Tryd.pinned.checked.prog.loopsFrom ·))) = true := by kernel_rfl
theorem cElemTurnsCoverJ17 : ((Rows.elemTurnsCoverUptoRow.wideKeys == (Tryd.f5.params.toList ++ (Rows.OpenSpec.upto Rows.elemTurnsCoverSpec).bare.plain.varTypes Tryd.pinned.checked.prog ++ Tryd.f5.resultTypes.toList).any (Tryd.pinned.checked.prog.wideKeysFrom ·))) = true := by kernel_rfl
theorem cElemTurnsCoverJ18 : ((Rows.OpenSpec.upto Rows.elemTurnsCoverSpec).bare.vars.all (Tryd.pinned.checked.prog.varReadable ·)) = true := by kernel_rfl
theorem cElemTurnsCoverJ19 : (Tryd.f5.resultTypes.all (fun t => Tryd.pinned.checked.prog.readableRec t && decide (t < Tryd.pinned.checked.prog.types.size))) = true := by kernel_rfl
theorem cElemTurnsCoverJ20 : ((Rows.elemTurnsCoverUptoRow.ifacesOut == Tryd.f5.resultTypes.toList.any (Tryd.pinned.checked.prog.ifacesRec ·))) = true := by kernel_rfl
theorem cElemTurnsCoverJ21 : ((Rows.elemTurnsCoverUptoRow.loopsOut == Tryd.f5.resultTypes.toList.any (Tryd.pinned.checked.prog.loopsFrom ·))) = true := by kernel_rfl
theorem cElemTurnsCoverJ23 : (Rows.elemTurnsCoverUptoRow.shortTexts.isNone) = true := by kernel_rfl
theorem cElemTurnsCoverJ28 : ((Rows.elemTurnsCoverUptoRow.kinds == (if Rows.elemTurnsCoverUptoRow.domain.isEmpty then [] else Tryd.f5.params.toList.map fun t => match Tryd.pinned.checked.prog.underlying t with | some (.int k) => some k | _ => none))) = true := by kernel_rfl
theorem cElemTurnsCoverJ29 : ((Rows.elemTurnsCoverUptoRow.pinned == Rows.elemTurnsCoverUptoRow.pinnedBy)) = true := by kernel_rfl
theorem cElemTurnsCoverJ30 : ((Rows.elemTurnsCoverUptoRow.veiled == (Tryd.f5.params.toList ++ (Rows.OpenSpec.upto Rows.elemTurnsCoverSpec).bare.plain.varTypes Tryd.pinned.checked.prog ++ Tryd.f5.resultTypes.toList).any (Tryd.pinned.checked.prog.veiledRec ·))) = true := by kernel_rfl
theorem cElemTurnsCoverJ31 : (Rows.elemTurnsCoverUptoRow.veiledFits Tryd.pinned.checked.prog Tryd.f5.params.toList (Tryd.f5.params.toList ++ (Rows.OpenSpec.upto Rows.elemTurnsCoverSpec).bare.plain.varTypes Tryd.pinned.checked.prog ++ Tryd.f5.resultTypes.toList)) = true := by kernel_rfl
theorem cElemTurnsCoverJoined : joinedFacts Tryd.pinned.checked.prog 5 Tryd.f5 (Rows.OpenSpec.upto Rows.elemTurnsCoverSpec).bare Rows.elemTurnsCoverUptoRow = true := by
  unfold joinedFacts
  exact and2 (and2 (and2 (and2 (and2 (and2 (and2 (and2 (and2 (and2 (and2 (and2 (and2 (and2 (and2 (and2 (and2 (and2 (and2 (and2 (and2 (and2 (and2 (and2 (and2 (and2 (and2 (and2 (and2 (and2 (and2 cElemTurnsCoverJ0 jp1) jp2) cElemTurnsCoverJ3) cElemTurnsCoverJ4) cElemTurnsCoverJ5) jp6) cElemTurnsCoverJ7) jp8) cElemTurnsCoverJ9) cElemTurnsCoverJ10) cElemTurnsCoverJ11) cElemTurnsCoverJ12) cElemTurnsCoverJ13) cElemTurnsCoverJ14) cElemTurnsCoverJ15) cElemTurnsCoverJ16) cElemTurnsCoverJ17) cElemTurnsCoverJ18) cElemTurnsCoverJ19) cElemTurnsCoverJ20) cElemTurnsCoverJ21) jp22) cElemTurnsCoverJ23) jp24) jp25) jp26) jp27) cElemTurnsCoverJ28) cElemTurnsCoverJ29) cElemTurnsCoverJ30) cElemTurnsCoverJ31
theorem cElemTurnsCoverWf : Rows.elemTurnsCoverUptoRow.wfByText (Rows.OpenSpec.upto Rows.elemTurnsCoverSpec) = true := by kernel_rfl
theorem cElemTurnsCoverGoes : false = Rows.elemTurnsCoverUptoRow.goesBy Tryd.pinned.checked.prog := by kernel_rfl
end Go.Proofs.YtfgephfneliimaaDoor
