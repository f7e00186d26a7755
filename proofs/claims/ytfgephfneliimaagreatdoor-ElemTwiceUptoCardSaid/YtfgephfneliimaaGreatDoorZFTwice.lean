/- Closed facts that the card of ElemTwice asks, each by itself. -/
import Derived.Test.YtfgephfneliimaaGreatDoorZJp
set_option maxRecDepth 20000
namespace Go.Proofs.YtfgephfneliimaaGreatDoor
open Go Go.Abs Go.Num Go.RowKit Go.ChangeShapes Go.WideShapes Go.ChangeAt
theorem cElemTwiceJ0 : (Rows.elemTwiceUptoRow.wf (OpenSpec.ofChange (Rows.OpenSpec.upto Rows.elemTwiceSpec).bare)) = true := by kernel_rfl
theorem cElemTwiceJ3 : (Tryz.f15.params.all (Tryz.pinned.checked.prog.readableRec ·)) = true := by kernel_rfl
theorem cElemTwiceJ4 : (namedTie Tryz.pinned.checked.prog Rows.elemTwiceUptoRow.named (Rows.OpenSpec.upto Rows.elemTwiceSpec).bare.vars) = true := by kernel_rfl
theorem cElemTwiceJ5 : ((Rows.elemTwiceUptoRow.stops == [])) = true := by kernel_rfl
theorem cElemTwiceJ7 : ((Rows.elemTwiceUptoRow.knobs == [])) = true := by kernel_rfl
theorem cElemTwiceJ9 : ((Rows.elemTwiceUptoRow.inPlace == Tryz.pinned.checked.prog.inPlace 15)) = true := by kernel_rfl
theorem cElemTwiceJ10 : ((Rows.elemTwiceUptoRow.unfollowed == Tryz.pinned.checked.prog.unfollowed 15)) = true := by kernel_rfl
theorem cElemTwiceJ11 : ((Rows.elemTwiceUptoRow.recurses == Tryz.pinned.checked.prog.recurses 15)) = true := by kernel_rfl
theorem cElemTwiceJ12 : ((Rows.elemTwiceUptoRow.named == Tryz.pinned.checked.prog.varsNamed 15)) = true := by kernel_rfl
theorem cElemTwiceJ13 : ((Rows.elemTwiceUptoRow.maps == (Tryz.f15.params.toList ++ (Rows.OpenSpec.upto Rows.elemTwiceSpec).bare.plain.varTypes Tryz.pinned.checked.prog).any (Tryz.pinned.checked.prog.mapsRec ·))) = true := by kernel_rfl
theorem cElemTwiceJ14 : ((Rows.elemTwiceUptoRow.ifaces == (Tryz.f15.params.toList ++ (Rows.OpenSpec.upto Rows.elemTwiceSpec).bare.plain.varTypes Tryz.pinned.checked.prog).any (Tryz.pinned.checked.prog.ifacesRec ·))) = true := by kernel_rfl
theorem cElemTwiceJ15 : ((Rows.elemTwiceUptoRow.mapsOut == Tryz.pinned.checked.prog.mapsAmong Tryz.f15.resultTypes.toList)) = true := by kernel_rfl
theorem cElemTwiceJ16 : ((Rows.elemTwiceUptoRow.loops == (Tryz.f15.params.toList ++ (Rows.OpenSpec.upto Rows.elemTwiceSpec).bare.plain.varTypes Tryz.pinned.checked.prog).any (Tryz.pinned.checked.prog.loopsFrom ·))) = true := by kernel_rfl
theorem cElemTwiceJ17 : ((Rows.elemTwiceUptoRow.wideKeys == (Tryz.f15.params.toList ++ (Rows.OpenSpec.upto Rows.elemTwiceSpec).bare.plain.varTypes Tryz.pinned.checked.prog ++ Tryz.f15.resultTypes.toList).any (Tryz.pinned.checked.prog.wideKeysFrom ·))) = true := by kernel_rfl
theorem cElemTwiceJ18 : ((Rows.OpenSpec.upto Rows.elemTwiceSpec).bare.vars.all (Tryz.pinned.checked.prog.varReadable ·)) = true := by kernel_rfl
theorem cElemTwiceJ19 : (Tryz.f15.resultTypes.all (fun t => Tryz.pinned.checked.prog.readableRec t && decide (t < Tryz.pinned.checked.prog.types.size))) = true := by kernel_rfl
theorem cElemTwiceJ20 : ((Rows.elemTwiceUptoRow.ifacesOut == Tryz.f15.resultTypes.toList.any (Tryz.pinned.checked.prog.ifacesRec ·))) = true := by kernel_rfl
theorem cElemTwiceJ21 : ((Rows.elemTwiceUptoRow.loopsOut == Tryz.f15.resultTypes.toList.any (Tryz.pinned.checked.prog.loopsFrom ·))) = true := by kernel_rfl
theorem cElemTwiceJ23 : (Rows.elemTwiceUptoRow.shortTexts.isNone) = true := by kernel_rfl
theorem cElemTwiceJ28 : ((Rows.elemTwiceUptoRow.kinds == (if Rows.elemTwiceUptoRow.domain.isEmpty then [] else Tryz.f15.params.toList.map fun t => match Tryz.pinned.checked.prog.underlying t with | some (.int k) => some k | _ => none))) = true := by kernel_rfl
theorem cElemTwiceJ29 : ((Rows.elemTwiceUptoRow.pinned == Rows.elemTwiceUptoRow.pinnedBy)) = true := by kernel_rfl
theorem cElemTwiceJ30 : ((Rows.elemTwiceUptoRow.veiled == (Tryz.f15.params.toList ++ (Rows.OpenSpec.upto Rows.elemTwiceSpec).bare.plain.varTypes Tryz.pinned.checked.prog ++ Tryz.f15.resultTypes.toList).any (Tryz.pinned.checked.prog.veiledRec ·))) = true := by kernel_rfl
theorem cElemTwiceJ31 : (Rows.elemTwiceUptoRow.veiledFits Tryz.pinned.checked.prog Tryz.f15.params.toList (Tryz.f15.params.toList ++ (Rows.OpenSpec.upto Rows.elemTwiceSpec).bare.plain.varTypes Tryz.pinned.checked.prog ++ Tryz.f15.resultTypes.toList)) = true := by kernel_rfl
theorem cElemTwiceJoined : joinedFacts Tryz.pinned.checked.prog 15 Tryz.f15 (Rows.OpenSpec.upto Rows.elemTwiceSpec).bare Rows.elemTwiceUptoRow = true := by
  unfold joinedFacts
  exact and2 (and2 (and2 (and2 (and2 (and2 (and2 (and2 (and2 (and2 (and2 (and2 (and2 (and2 (and2 (and2 (and2 (and2 (and2 (and2 (and2 (and2 (and2 (and2 (and2 (and2 (and2 (and2 (and2 (and2 (and2 cElemTwiceJ0 jp1) jp2) cElemTwiceJ3) cElemTwiceJ4) cElemTwiceJ5) jp6) cElemTwiceJ7) jp8) cElemTwiceJ9) cElemTwiceJ10) cElemTwiceJ11) cElemTwiceJ12) cElemTwiceJ13) cElemTwiceJ14) cElemTwiceJ15) cElemTwiceJ16) cElemTwiceJ17) cElemTwiceJ18) cElemTwiceJ19) cElemTwiceJ20) cElemTwiceJ21) jp22) cElemTwiceJ23) jp24) jp25) jp26) jp27) cElemTwiceJ28) cElemTwiceJ29) cElemTwiceJ30) cElemTwiceJ31
theorem cElemTwiceWf : Rows.elemTwiceUptoRow.wfByText (Rows.OpenSpec.upto Rows.elemTwiceSpec) = true := by kernel_rfl
theorem cElemTwiceGoes : false = Rows.elemTwiceUptoRow.goesBy Tryz.pinned.checked.prog := by kernel_rfl
end Go.Proofs.YtfgephfneliimaaGreatDoor
