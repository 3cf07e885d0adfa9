/- Closed facts about the law's function: what it reaches. No condition. -/
import Derived.Test.YtmabojcaklojhaaGreatRows
import Derived.WalkKit
import Derived.ProofKit
import Derived.OpenShut
namespace Go.Proofs.YtmabojcaklojhaaGreat.facts
open Go.ChangeShapes Go.WideShapes Go.ChangeAt Go.RowKit
theorem inPlace3 : (Rows.scopeEndsUptoRow.inPlace == Tryz.prog.inPlace 3) = true := by kernel_rfl
theorem unfollowed3 : (Rows.scopeEndsUptoRow.unfollowed == Tryz.prog.unfollowed 3) = true := by kernel_rfl
end Go.Proofs.YtmabojcaklojhaaGreat.facts
