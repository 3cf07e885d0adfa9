/- Closed facts about the law's function: what it reaches. No condition. -/
import Derived.Test.YtmabojcaklojhaaGreatRows
import Derived.WalkKit
import Derived.ProofKit
import Derived.OpenShut
namespace Go.Proofs.YtmabojcaklojhaaGreat.facts
open Go.ChangeShapes Go.WideShapes Go.ChangeAt Go.RowKit
theorem inPlace4 : (Rows.collectEndsUptoRow.inPlace == Tryz.prog.inPlace 4) = true := by kernel_rfl
theorem unfollowed4 : (Rows.collectEndsUptoRow.unfollowed == Tryz.prog.unfollowed 4) = true := by kernel_rfl
end Go.Proofs.YtmabojcaklojhaaGreat.facts
