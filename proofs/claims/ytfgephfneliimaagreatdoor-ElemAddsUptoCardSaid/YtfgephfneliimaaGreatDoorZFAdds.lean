/- Closed facts that the card of ElemAdds asks, each by itself. -/
import Derived.Test.YtfgephfneliimaaGreatDoorZJp
set_option maxRecDepth 20000
namespace Go.Proofs.YtfgephfneliimaaGreatDoor
open Go Go.Abs Go.Num Go.RowKit Go.ChangeShapes Go.WideShapes Go.ChangeAt
theorem cElemAddsJ0 : (Rows.elemAddsUptoRow.wf (OpenSpec.ofChange (Rows.OpenSpec.upto Rows.elemAddsSpec).bare)) = true := by kernel_rfl
theorem cElemAddsJ3 : (Tryz.f13.params.all (Tryz.pinned.checked.prog.readableRec ·)) = true := by kernel_rfl
theorem cElemAddsJ4 : (namedTie Tryz.pinned.checked.prog Rows.elemAddsUptoRow.named (Rows.OpenSpec.upto Rows.elemAddsSpec).bare.vars) = true := by kernel_rfl
theorem cElemAddsJ5 : ((Rows.elemAddsUptoRow.stops == [])) = true := by kernel_rfl
theorem cElemAddsJ7 : ((Rows.elemAddsUptoRow.knobs == [])) = true := by kernel_rfl
theorem cElemAddsJ9 : ((Rows.elemAddsUptoRow.inPlace == Tryz.pinned.checked.prog.inPlace 13)) = true := by kernel_rfl
theorem cElemAddsJ10 : ((Rows.elemAddsUptoRow.unfollowed == Tryz.pinned.checked.prog.unfollowed 13)) = true := by kernel_rfl
theorem cElemAddsJ11 : ((Rows.elemAddsUptoRow.recurses == Tryz.pinned.checked.prog.recurses 13)) = true := by kernel_rfl
theorem cElemAddsJ12 : ((Rows.elemAddsUptoRow.named == Tryz.pinned.checked.prog.varsNamed 13)) = true := by kernel_rfl
theorem cElemAddsJ13 : ((Rows.elemAddsUptoRow.maps == (Tryz.f13.params.toList ++ (Rows.OpenSpec.upto Rows.elemAddsSpec).bare.plain.varTypes Tryz.pinned.checked.prog).any (Tryz.pinned.checked.prog.mapsRec ·))) = true := by kernel_rfl
theorem cElemAddsJ14 : ((Rows.elemAddsUptoRow.ifaces == (Tryz.f13.params.toList ++ (Rows.OpenSpec.upto Rows.elemAddsSpec).bare.plain.varTypes Tryz.pinned.checked.prog).any (Tryz.pinned.checked.prog.ifacesRec ·))) = true := by kernel_rfl
theorem cElemAddsJ15 : ((Rows.elemAddsUptoRow.mapsOut == Tryz.pinned.checked.prog.mapsAmong Tryz.f13.resultTypes.toList)) = true := by kernel_rfl
theorem cElemAddsJ16 : ((Rows.elemAddsUptoRow.loops == (Tryz.f13.params.toList ++ (Rows.OpenSpec.upto Rows.elemAddsSpec).bare.plain.varTypes Tryz.pinned.checked.prog).any (Tryz.pinned.checked.prog.loopsFrom ·))) = true := by kernel_rfl
theorem cElemAddsJ17 : ((Rows.elemAddsUptoRow.wideKeys == (Tryz.f13.params.toList ++ (Rows.OpenSpec.upto Rows.elemAddsSpec).bare.plain.varTypes Tryz.pinned.checked.prog ++ Tryz.f13.resultTypes.toList).any (Tryz.pinned.checked.prog.wideKeysFrom ·))) = true := by kernel_rfl
theorem cElemAddsJ18 : ((Rows.OpenSpec.upto Rows.elemAddsSpec).bare.vars.all (Tryz.pinned.checked.prog.varReadable ·)) = true := by kernel_rfl
theorem cElemAddsJ19 : (Tryz.f13.resultTypes.all (fun t => Tryz.pinned.checked.prog.readableRec t && decide (t < Tryz.pinned.checked.prog.types.size))) = true := by kernel_rfl
theorem cElemAddsJ20 : ((Rows.elemAddsUptoRow.ifacesOut == Tryz.f13.resultTypes.toList.any (Tryz.pinned.checked.prog.ifacesRec ·))) = true := by kernel_rfl
theorem cElemAddsJ21 : ((Rows.elemAddsUptoRow.loopsOut == Tryz.f13.resultTypes.toList.any (Tryz.pinned.checked.prog.loopsFrom ·))) = true := by kernel_rfl
theorem cElemAddsJ23 : (Rows.elemAddsUptoRow.shortTexts.isNone) = true := by kernel_rfl
theorem cElemAddsJ28 : ((Rows.elemAddsUptoRow.kinds == (if Rows.elemAddsUptoRow.domain.isEmpty then [] else Tryz.f13.params.toList.map fun t => match Tryz.pinned.checked.prog.underlying t with | some (.int k) => some k | _ => none))) = true := by kernel_rfl
theorem cElemAddsJ29 : ((Rows.elemAddsUptoRow.pinned == Rows.elemAddsUptoRow.pinnedBy)) = true := by kernel_rfl
theorem cElemAddsJ30 : ((Rows.elemAddsUptoRow.veiled == (Tryz.f13.params.toList ++ (Rows.OpenSpec.upto Rows.elemAddsSpec).bare.plain.varTypes Tryz.pinned.checked.prog ++ Tryz.f13.resultTypes.toList).any (Tryz.pinned.checked.prog.veiledRec ·))) = true := by kernel_rfl
theorem cElemAddsJ31 : (Rows.elemAddsUptoRow.veiledFits Tryz.pinned.checked.prog Tryz.f13.params.toList (Tryz.f13.params.toList ++ (Rows.OpenSpec.upto Rows.elemAddsSpec).bare.plain.varTypes Tryz.pinned.checked.prog ++ Tryz.f13.resultTypes.toList)) = true := by kernel_rfl
theorem cElemAddsJoined : joinedFacts Tryz.pinned.checked.prog 13 Tryz.f13 (Rows.OpenSpec.upto Rows.elemAddsSpec).bare Rows.elemAddsUptoRow = true := by
  unfold joinedFacts
  exact and2 (and2 (and2 (and2 (and2 (and2 (and2 (and2 (and2 (and2 (and2 (and2 (and2 (and2 (and2 (and2 (and2 (and2 (and2 (and2 (and2 (and2 (and2 (and2 (and2 (and2 (and2 (and2 (and2 (and2 (and2 cElemAddsJ0 jp1) jp2) cElemAddsJ3) cElemAddsJ4) cElemAddsJ5) jp6) cElemAddsJ7) jp8) cElemAddsJ9) cElemAddsJ10) cElemAddsJ11) cElemAddsJ12) cElemAddsJ13) cElemAddsJ14) cElemAddsJ15) cElemAddsJ16) cElemAddsJ17) cElemAddsJ18) cElemAddsJ19) cElemAddsJ20) cElemAddsJ21) jp22) cElemAddsJ23) jp24) jp25) jp26) jp27) cElemAddsJ28) cElemAddsJ29) cElemAddsJ30) cElemAddsJ31
theorem cElemAddsWf : Rows.elemAddsUptoRow.wfByText (Rows.OpenSpec.upto Rows.elemAddsSpec) = true := by kernel_rfl
theorem cElemAddsGoes : false = Rows.elemAddsUptoRow.goesBy Tryz.pinned.checked.prog := by kernel_rfl
end Go.Proofs.YtfgephfneliimaaGreatDoor
