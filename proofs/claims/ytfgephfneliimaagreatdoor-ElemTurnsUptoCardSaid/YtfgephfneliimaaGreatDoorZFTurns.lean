/- Closed facts that the card of ElemTurns asks, each by itself. -/
import Derived.Test.YtfgephfneliimaaGreatDoorZJp
set_option maxRecDepth 20000
namespace Go.Proofs.YtfgephfneliimaaGreatDoor
open Go Go.Abs Go.Num Go.RowKit Go.ChangeShapes Go.WideShapes Go.ChangeAt
theorem cElemTurnsJ0 : (Rows.elemTurnsUptoRow.wf (OpenSpec.ofChange (Rows.OpenSpec.upto Rows.elemTurnsSpec).bare)) = true := by kernel_rfl
theorem cElemTurnsJ3 : (Tryz.f4.params.all (Tryz.pinned.checked.prog.readableRec ·)) = true := by kernel_rfl
theorem cElemTurnsJ4 : (namedTie Tryz.pinned.checked.prog Rows.elemTurnsUptoRow.named (Rows.OpenSpec.upto Rows.elemTurnsSpec).bare.vars) = true := by kernel_rfl
theorem cElemTurnsJ5 : ((Rows.elemTurnsUptoRow.stops == [])) = true := by kernel_rfl
theorem cElemTurnsJ7 : ((Rows.elemTurnsUptoRow.knobs == [])) = true := by kernel_rfl
theorem cElemTurnsJ9 : ((Rows.elemTurnsUptoRow.inPlace == Tryz.pinned.checked.prog.inPlace 4)) = true := by kernel_rfl
theorem cElemTurnsJ10 : ((Rows.elemTurnsUptoRow.unfollowed == Tryz.pinned.checked.prog.unfollowed 4)) = true := by kernel_rfl
theorem cElemTurnsJ11 : ((Rows.elemTurnsUptoRow.recurses == Tryz.pinned.checked.prog.recurses 4)) = true := by kernel_rfl
theorem cElemTurnsJ12 : ((Rows.elemTurnsUptoRow.named == Tryz.pinned.checked.prog.varsNamed 4)) = true := by kernel_rfl
theorem cElemTurnsJ13 : ((Rows.elemTurnsUptoRow.maps == (Tryz.f4.params.toList ++ (Rows.OpenSpec.upto Rows.elemTurnsSpec).bare.plain.varTypes Tryz.pinned.checked.prog).any (Tryz.pinned.checked.prog.mapsRec ·))) = true := by kernel_rfl
theorem cElemTurnsJ14 : ((Rows.elemTurnsUptoRow.ifaces == (Tryz.f4.params.toList ++ (Rows.OpenSpec.upto Rows.elemTurnsSpec).bare.plain.varTypes Tryz.pinned.checked.prog).any (Tryz.pinned.checked.prog.ifacesRec ·))) = true := by kernel_rfl
theorem cElemTurnsJ15 : ((Rows.elemTurnsUptoRow.mapsOut == Tryz.pinned.checked.prog.mapsAmong Tryz.f4.resultTypes.toList)) = true := by kernel_rfl
theorem cElemTurnsJ16 : ((Rows.elemTurnsUptoRow.loops == (Tryz.f4.params.toList ++ (Rows.OpenSpec.upto Rows.elemTurnsSpec).bare.plain.varTypes Tryz.pinned.checked.prog).any (Tryz.pinned.checked.prog.loopsFrom ·))) = true := by kernel_rfl
theorem cElemTurnsJ17 : ((Rows.elemTurnsUptoRow.wideKeys == (Tryz.f4.params.toList ++ (Rows.OpenSpec.upto Rows.elemTurnsSpec).bare.plain.varTypes Tryz.pinned.checked.prog ++ Tryz.f4.resultTypes.toList).any (Tryz.pinned.checked.prog.wideKeysFrom ·))) = true := by kernel_rfl
theorem cElemTurnsJ18 : ((Rows.OpenSpec.upto Rows.elemTurnsSpec).bare.vars.all (Tryz.pinned.checked.prog.varReadable ·)) = true := by kernel_rfl
theorem cElemTurnsJ19 : (Tryz.f4.resultTypes.all (fun t => Tryz.pinned.checked.prog.readableRec t && decide (t < Tryz.pinned.checked.prog.types.size))) = true := by kernel_rfl
theorem cElemTurnsJ20 : ((Rows.elemTurnsUptoRow.ifacesOut == Tryz.f4.resultTypes.toList.any (Tryz.pinned.checked.prog.ifacesRec ·))) = true := by kernel_rfl
theorem cElemTurnsJ21 : ((Rows.elemTurnsUptoRow.loopsOut == Tryz.f4.resultTypes.toList.any (Tryz.pinned.checked.prog.loopsFrom ·))) = true := by kernel_rfl
theorem cElemTurnsJ23 : (Rows.elemTurnsUptoRow.shortTexts.isNone) = true := by kernel_rfl
theorem cElemTurnsJ28 : ((Rows.elemTurnsUptoRow.kinds == (if Rows.elemTurnsUptoRow.domain.isEmpty then [] else Tryz.f4.params.toList.map fun t => match Tryz.pinned.checked.prog.underlying t with | some (.int k) => some k | _ => none))) = true := by kernel_rfl
theorem cElemTurnsJ29 : ((Rows.elemTurnsUptoRow.pinned == Rows.elemTurnsUptoRow.pinnedBy)) = true := by kernel_rfl
theorem cElemTurnsJ30 : ((Rows.elemTurnsUptoRow.veiled == (Tryz.f4.params.toList ++ (Rows.OpenSpec.upto Rows.elemTurnsSpec).bare.plain.varTypes Tryz.pinned.checked.prog ++ Tryz.f4.resultTypes.toList).any (Tryz.pinned.checked.prog.veiledRec ·))) = true := by kernel_rfl
theorem cElemTurnsJ31 : (Rows.elemTurnsUptoRow.veiledFits Tryz.pinned.checked.prog Tryz.f4.params.toList (Tryz.f4.params.toList ++ (Rows.OpenSpec.upto Rows.elemTurnsSpec).bare.plain.varTypes Tryz.pinned.checked.prog ++ Tryz.f4.resultTypes.toList)) = true := by kernel_rfl
theorem cElemTurnsJoined : joinedFacts Tryz.pinned.checked.prog 4 Tryz.f4 (Rows.OpenSpec.upto Rows.elemTurnsSpec).bare Rows.elemTurnsUptoRow = true := by
  unfold joinedFacts
  exact and2 (and2 (and2 (and2 (and2 (and2 (and2 (and2 (and2 (and2 (and2 (and2 (and2 (and2 (and2 (and2 (and2 (and2 (and2 (and2 (and2 (and2 (and2 (and2 (and2 (and2 (and2 (and2 (and2 (and2 (and2 cElemTurnsJ0 jp1) jp2) cElemTurnsJ3) cElemTurnsJ4) cElemTurnsJ5) jp6) cElemTurnsJ7) jp8) cElemTurnsJ9) cElemTurnsJ10) cElemTurnsJ11) cElemTurnsJ12) cElemTurnsJ13) cElemTurnsJ14) cElemTurnsJ15) cElemTurnsJ16) cElemTurnsJ17) cElemTurnsJ18) cElemTurnsJ19) cElemTurnsJ20) cElemTurnsJ21) jp22) cElemTurnsJ23) jp24) jp25) jp26) jp27) cElemTurnsJ28) cElemTurnsJ29) cElemTurnsJ30) cElemTurnsJ31
theorem cElemTurnsWf : Rows.elemTurnsUptoRow.wfByText (Rows.OpenSpec.upto Rows.elemTurnsSpec) = true := by kernel_rfl
theorem cElemTurnsGoes : false = Rows.elemTurnsUptoRow.goesBy Tryz.pinned.checked.prog := by kernel_rfl
end Go.Proofs.YtfgephfneliimaaGreatDoor
