/- Closed facts about the program: its make. No condition. -/
import Derived.Test.YtmabojcaklojhaaGreatRows
import Derived.WalkKit
import Derived.ProofKit
import Derived.OpenShut
namespace Go.Proofs.YtmabojcaklojhaaGreat.facts
open Go.ChangeShapes Go.WideShapes Go.ChangeAt Go.RowKit
theorem lifts : (Rows.collectEndsUptoRow.lifted == Tryz.prog.liftsFinal) = true := by kernel_rfl
theorem made : (Tryz.prog.make == some Rows.collectEndsUptoRow.make) = true := by kernel_rfl
theorem keys : (Rows.collectEndsUptoRow.plainKeys == Tryz.prog.plainKeys) = true := by kernel_rfl
end Go.Proofs.YtmabojcaklojhaaGreat.facts
