/- Closed facts about the law's function: what it reaches. No condition. -/
import Derived.Test.YtdckaphpejgnjaaGreatRows
import Derived.WalkKit
import Derived.ProofKit
import Derived.OpenShut
namespace Go.Proofs.YtdckaphpejgnjaaGreat.facts
open Go.ChangeShapes Go.WideShapes Go.ChangeAt Go.RowKit
theorem inPlace5 : (Rows.collectNilRow.inPlace == Tryz.prog.inPlace 5) = true := by kernel_rfl
theorem unfollowed5 : (Rows.collectNilRow.unfollowed == Tryz.prog.unfollowed 5) = true := by kernel_rfl
end Go.Proofs.YtdckaphpejgnjaaGreat.facts
