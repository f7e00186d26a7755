/- Closed facts on the whole program that all cards ask, each by itself. -/
import Derived.Test.YtfgephfneliimaaGreatDoorGcodh
set_option maxRecDepth 20000
namespace Go.Proofs.YtfgephfneliimaaGreatDoor
open Go Go.Abs Go.Num Go.RowKit Go.ChangeShapes Go.WideShapes Go.ChangeAt
theorem and2 {a b : Bool} (h1 : a = true) (h2 : b = true) : (a && b) = true := by rw [h1, h2]; rfl
theorem jp1 : (laidOutB Tryz.pinned.checked.prog) = true := by kernel_rfl
theorem jp2 : (mapsRowed Tryz.pinned.checked.prog) = true := by kernel_rfl
theorem jp6 : (Tryz.pinned.checked.prog.stops == []) = true := by kernel_rfl
theorem jp8 : (Tryz.pinned.checked.prog.stopKnobs == []) = true := by kernel_rfl
theorem jp22 : (true == Tryz.pinned.checked.prog.plainKeys) = true := by kernel_rfl
theorem jp24 : (Tryz.pinned.checked.prog.stopsHeard) = true := by kernel_rfl
theorem jp25 : (Tryz.pinned.checked.prog.mayEnter) = true := by kernel_rfl
theorem jp26 : (false == Tryz.pinned.checked.prog.liftsFinal) = true := by kernel_rfl
theorem jp27 : (Tryz.pinned.checked.prog.make == some .cut) = true := by kernel_rfl
theorem jpLooks : false = Tryz.pinned.checked.prog.looks [] := by kernel_rfl
end Go.Proofs.YtfgephfneliimaaGreatDoor
