/- Closed facts on the whole program that all cards ask, each by itself. -/
import Derived.Test.YtfgephfneliimaaDoorGvh
set_option maxRecDepth 20000
namespace Go.Proofs.YtfgephfneliimaaDoor
open Go Go.Abs Go.Num Go.RowKit Go.ChangeShapes Go.WideShapes Go.ChangeAt
theorem and2 {a b : Bool} (h1 : a = true) (h2 : b = true) : (a && b) = true := by rw [h1, h2]; rfl
theorem jp1 : (laidOutB Tryd.pinned.checked.prog) = true := by kernel_rfl
theorem jp2 : (mapsRowed Tryd.pinned.checked.prog) = true := by kernel_rfl
theorem jp6 : (Tryd.pinned.checked.prog.stops == []) = true := by kernel_rfl
theorem jp8 : (Tryd.pinned.checked.prog.stopKnobs == []) = true := by kernel_rfl
theorem jp22 : (true == Tryd.pinned.checked.prog.plainKeys) = true := by kernel_rfl
theorem jp24 : (Tryd.pinned.checked.prog.stopsHeard) = true := by kernel_rfl
theorem jp25 : (Tryd.pinned.checked.prog.mayEnter) = true := by kernel_rfl
theorem jp26 : (false == Tryd.pinned.checked.prog.liftsFinal) = true := by kernel_rfl
theorem jp27 : (Tryd.pinned.checked.prog.make == some .cut) = true := by kernel_rfl
theorem jpLooks : false = Tryd.pinned.checked.prog.looks [] := by kernel_rfl
end Go.Proofs.YtfgephfneliimaaDoor
