/- Closed facts about the law's function: what it reaches. No condition. -/
import Derived.Test.YtmabojcaklojhaaGreatRows
import Derived.WalkKit
import Derived.ProofKit
import Derived.OpenShut
namespace Go.Proofs.YtmabojcaklojhaaGreat.facts
open Go.ChangeShapes Go.WideShapes Go.ChangeAt Go.RowKit
theorem inPlace5 : (Rows.fragsEndsUptoRow.inPlace == Tryz.prog.inPlace 5) = true := by kernel_rfl
theorem unfollowed5 : (Rows.fragsEndsUptoRow.unfollowed == Tryz.prog.unfollowed 5) = true := by kernel_rfl
end Go.Proofs.YtmabojcaklojhaaGreat.facts
