/- Closed facts about the law's function: what it reaches. No condition. -/
import Derived.Test.YtdckaphpejgnjaaGreatRows
import Derived.WalkKit
import Derived.ProofKit
import Derived.OpenShut
namespace Go.Proofs.YtdckaphpejgnjaaGreat.facts
open Go.ChangeShapes Go.WideShapes Go.ChangeAt Go.RowKit
theorem inPlace8 : (Rows.fragsTellsRow.inPlace == Tryz.prog.inPlace 8) = true := by kernel_rfl
theorem unfollowed8 : (Rows.fragsTellsRow.unfollowed == Tryz.prog.unfollowed 8) = true := by kernel_rfl
end Go.Proofs.YtdckaphpejgnjaaGreat.facts
