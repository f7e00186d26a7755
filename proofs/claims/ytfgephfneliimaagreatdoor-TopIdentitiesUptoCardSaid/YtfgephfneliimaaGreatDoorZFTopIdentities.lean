/- Closed facts that the card of TopIdentities asks, each by itself. -/
import Derived.Test.YtfgephfneliimaaGreatDoorZJp
set_option maxRecDepth 20000
namespace Go.Proofs.YtfgephfneliimaaGreatDoor
open Go Go.Abs Go.Num Go.RowKit Go.ChangeShapes Go.WideShapes Go.ChangeAt
theorem cTopIdentitiesJ0 : (Rows.topIdentitiesUptoRow.wf (OpenSpec.ofChange (Rows.OpenSpec.upto Rows.topIdentitiesSpec).bare)) = true := by kernel_rfl
theorem cTopIdentitiesJ3 : (Tryz.f5.params.all (Tryz.pinned.checked.prog.readableRec ·)) = true := by kernel_rfl
theorem cTopIdentitiesJ4 : (namedTie Tryz.pinned.checked.prog Rows.topIdentitiesUptoRow.named (Rows.OpenSpec.upto Rows.topIdentitiesSpec).bare.vars) = true := by kernel_rfl
theorem cTopIdentitiesJ5 : ((Rows.topIdentitiesUptoRow.stops == [])) = true := by kernel_rfl
theorem cTopIdentitiesJ7 : ((Rows.topIdentitiesUptoRow.knobs == [])) = true := by kernel_rfl
theorem cTopIdentitiesJ9 : ((Rows.topIdentitiesUptoRow.inPlace == Tryz.pinned.checked.prog.inPlace 5)) = true := by kernel_rfl
theorem cTopIdentitiesJ10 : ((Rows.topIdentitiesUptoRow.unfollowed == Tryz.pinned.checked.prog.unfollowed 5)) = true := by kernel_rfl
theorem cTopIdentitiesJ11 : ((Rows.topIdentitiesUptoRow.recurses == Tryz.pinned.checked.prog.recurses 5)) = true := by kernel_rfl
theorem cTopIdentitiesJ12 : ((Rows.topIdentitiesUptoRow.named == Tryz.pinned.checked.prog.varsNamed 5)) = true := by kernel_rfl
theorem cTopIdentitiesJ13 : ((Rows.topIdentitiesUptoRow.maps == (Tryz.f5.params.toList ++ (Rows.OpenSpec.upto Rows.topIdentitiesSpec).bare.plain.varTypes Tryz.pinned.checked.prog).any (Tryz.pinned.checked.prog.mapsRec ·))) = true := by kernel_rfl
theorem cTopIdentitiesJ14 : ((Rows.topIdentitiesUptoRow.ifaces == (Tryz.f5.params.toList ++ (Rows.OpenSpec.upto Rows.topIdentitiesSpec).bare.plain.varTypes Tryz.pinned.checked.prog).any (Tryz.pinned.checked.prog.ifacesRec ·))) = true := by kernel_rfl
theorem cTopIdentitiesJ15 : ((Rows.topIdentitiesUptoRow.mapsOut == Tryz.pinned.checked.prog.mapsAmong Tryz.f5.resultTypes.toList)) = true := by kernel_rfl
theorem cTopIdentitiesJ16 : ((Rows.topIdentitiesUptoRow.loops == (Tryz.f5.params.toList ++ (Rows.OpenSpec.upto Rows.topIdentitiesSpec).bare.plain.varTypes Tryz.pinned.checked.prog).any (Tryz.pinned.checked.prog.loopsFrom ·))) = true := by kernel_rfl
theorem cTopIdentitiesJ17 : ((Rows.topIdentitiesUptoRow.wideKeys == (Tryz.f5.params.toList ++ (Rows.OpenSpec.upto Rows.topIdentitiesSpec).bare.plain.varTypes Tryz.pinned.checked.prog ++ Tryz.f5.resultTypes.toList).any (Tryz.pinned.checked.prog.wideKeysFrom ·))) = true := by kernel_rfl
theorem cTopIdentitiesJ18 : ((Rows.OpenSpec.upto Rows.topIdentitiesSpec).bare.vars.all (Tryz.pinned.checked.prog.varReadable ·)) = true := by kernel_rfl
theorem cTopIdentitiesJ19 : (Tryz.f5.resultTypes.all (fun t => Tryz.pinned.checked.prog.readableRec t && decide (t < Tryz.pinned.checked.prog.types.size))) = true := by kernel_rfl
theorem cTopIdentitiesJ20 : ((Rows.topIdentitiesUptoRow.ifacesOut == Tryz.f5.resultTypes.toList.any (Tryz.pinned.checked.prog.ifacesRec ·))) = true := by kernel_rfl
theorem cTopIdentitiesJ21 : ((Rows.topIdentitiesUptoRow.loopsOut == Tryz.f5.resultTypes.toList.any (Tryz.pinned.checked.prog.loopsFrom ·))) = true := by kernel_rfl
theorem cTopIdentitiesJ23 : (Rows.topIdentitiesUptoRow.shortTexts.isNone) = true := by kernel_rfl
theorem cTopIdentitiesJ28 : ((Rows.topIdentitiesUptoRow.kinds == (if Rows.topIdentitiesUptoRow.domain.isEmpty then [] else Tryz.f5.params.toList.map fun t => match Tryz.pinned.checked.prog.underlying t with | some (.int k) => some k | _ => none))) = true := by kernel_rfl
theorem cTopIdentitiesJ29 : ((Rows.topIdentitiesUptoRow.pinned == Rows.topIdentitiesUptoRow.pinnedBy)) = true := by kernel_rfl
theorem cTopIdentitiesJ30 : ((Rows.topIdentitiesUptoRow.veiled == (Tryz.f5.params.toList ++ (Rows.OpenSpec.upto Rows.topIdentitiesSpec).bare.plain.varTypes Tryz.pinned.checked.prog ++ Tryz.f5.resultTypes.toList).any (Tryz.pinned.checked.prog.veiledRec ·))) = true := by kernel_rfl
theorem cTopIdentitiesJ31 : (Rows.topIdentitiesUptoRow.veiledFits Tryz.pinned.checked.prog Tryz.f5.params.toList (Tryz.f5.params.toList ++ (Rows.OpenSpec.upto Rows.topIdentitiesSpec).bare.plain.varTypes Tryz.pinned.checked.prog ++ Tryz.f5.resultTypes.toList)) = true := by kernel_rfl
theorem cTopIdentitiesJoined : joinedFacts Tryz.pinned.checked.prog 5 Tryz.f5 (Rows.OpenSpec.upto Rows.topIdentitiesSpec).bare Rows.topIdentitiesUptoRow = true := by
  unfold joinedFacts
  exact and2 (and2 (and2 (and2 (and2 (and2 (and2 (and2 (and2 (and2 (and2 (and2 (and2 (and2 (and2 (and2 (and2 (and2 (and2 (and2 (and2 (and2 (and2 (and2 (and2 (and2 (and2 (and2 (and2 (and2 (and2 cTopIdentitiesJ0 jp1) jp2) cTopIdentitiesJ3) cTopIdentitiesJ4) cTopIdentitiesJ5) jp6) cTopIdentitiesJ7) jp8) cTopIdentitiesJ9) cTopIdentitiesJ10) cTopIdentitiesJ11) cTopIdentitiesJ12) cTopIdentitiesJ13) cTopIdentitiesJ14) cTopIdentitiesJ15) cTopIdentitiesJ16) cTopIdentitiesJ17) cTopIdentitiesJ18) cTopIdentitiesJ19) cTopIdentitiesJ20) cTopIdentitiesJ21) jp22) cTopIdentitiesJ23) jp24) jp25) jp26) jp27) cTopIdentitiesJ28) cTopIdentitiesJ29) cTopIdentitiesJ30) cTopIdentitiesJ31
theorem cTopIdentitiesWf : Rows.topIdentitiesUptoRow.wfByText (Rows.OpenSpec.upto Rows.topIdentitiesSpec) = true := by kernel_rfl
theorem cTopIdentitiesGoes : false = Rows.topIdentitiesUptoRow.goesBy Tryz.pinned.checked.prog := by kernel_rfl
end Go.Proofs.YtfgephfneliimaaGreatDoor
