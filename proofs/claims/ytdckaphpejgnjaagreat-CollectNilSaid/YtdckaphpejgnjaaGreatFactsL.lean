/- Closed facts about the program: its make. No condition. -/
import Derived.Test.YtdckaphpejgnjaaGreatRows
import Derived.WalkKit
import Derived.ProofKit
import Derived.OpenShut
namespace Go.Proofs.YtdckaphpejgnjaaGreat.facts
open Go.ChangeShapes Go.WideShapes Go.ChangeAt Go.RowKit
theorem lifts : (Rows.scopeNilRow.lifted == Tryz.prog.liftsFinal) = true := by kernel_rfl
theorem made : (Tryz.prog.make == some Rows.scopeNilRow.make) = true := by kernel_rfl
theorem keys : (Rows.scopeNilRow.plainKeys == Tryz.prog.plainKeys) = true := by kernel_rfl
end Go.Proofs.YtdckaphpejgnjaaGreat.facts
