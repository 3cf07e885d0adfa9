/- Closed facts about the law's function: what it reaches. No condition. -/
import Derived.Test.YtmabojcaklojhaaGreatRows
import Derived.WalkKit
import Derived.ProofKit
import Derived.OpenShut
namespace Go.Proofs.YtmabojcaklojhaaGreat.facts
open Go.ChangeShapes Go.WideShapes Go.ChangeAt Go.RowKit
theorem inPlace6 : (Rows.overlapEndsUptoRow.inPlace == Tryz.prog.inPlace 6) = true := by kernel_rfl
theorem unfollowed6 : (Rows.overlapEndsUptoRow.unfollowed == Tryz.prog.unfollowed 6) = true := by kernel_rfl
end Go.Proofs.YtmabojcaklojhaaGreat.facts
