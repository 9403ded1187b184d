/- Facts on the seat's program that the rows' closing needs. -/
import Derived.Test.YtdidjpohnopihaaGreatRows
import Derived.JoinedCond
import Derived.SizedLaws
namespace Go.Proofs.YtdidjpohnopihaaGreat.jf
open Go.ChangeShapes Go.WideShapes Go.ChangeAt
set_option linter.unusedVariables false
theorem and_t {a b : Bool} (h1 : a = true) (h2 : b = true) : (a && b) = true := by rw [h1, h2]; rfl
theorem k1 : laidOutB Tryz.prog = true := by kernel_rfl
theorem k2 : mapsRowed Tryz.prog = true := by kernel_rfl
theorem k6 : (Tryz.prog.stops == []) = true := by kernel_rfl
theorem k8 : (Tryz.prog.stopKnobs == []) = true := by kernel_rfl
theorem k22 : (Rows.liveNoneRow.plainKeys == Tryz.prog.plainKeys) = true := by kernel_rfl
theorem k24 : Tryz.prog.stopsHeard = true := by kernel_rfl
theorem k25 : Tryz.prog.mayEnter = true := by kernel_rfl
theorem k26 : (Rows.liveNoneRow.lifted == Tryz.prog.liftsFinal) = true := by kernel_rfl
theorem k27 : (Tryz.prog.make == some Rows.liveNoneRow.make) = true := by kernel_rfl
end Go.Proofs.YtdidjpohnopihaaGreat.jf
