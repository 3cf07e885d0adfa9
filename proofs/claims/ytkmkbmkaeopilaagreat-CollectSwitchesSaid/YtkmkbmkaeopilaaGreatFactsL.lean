/- Closed facts about the program: its make. No condition. -/
import Derived.Test.YtkmkbmkaeopilaaGreatRows
import Derived.WalkKit
import Derived.ProofKit
import Derived.OpenShut
namespace Go.Proofs.YtkmkbmkaeopilaaGreat.facts
open Go.ChangeShapes Go.WideShapes Go.ChangeAt Go.RowKit
theorem lifts : (Rows.collectSwitchesRow.lifted == Tryz.prog.liftsFinal) = true := by kernel_rfl
theorem made : (Tryz.prog.make == some Rows.collectSwitchesRow.make) = true := by kernel_rfl
theorem keys : (Rows.collectSwitchesRow.plainKeys == Tryz.prog.plainKeys) = true := by kernel_rfl
end Go.Proofs.YtkmkbmkaeopilaaGreat.facts
