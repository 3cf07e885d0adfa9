/- Closed facts about the law's function: what it reaches. No condition. -/
import Derived.Test.YtkmkbmkaeopilaaGreatRows
import Derived.WalkKit
import Derived.ProofKit
import Derived.OpenShut
namespace Go.Proofs.YtkmkbmkaeopilaaGreat.facts
open Go.ChangeShapes Go.WideShapes Go.ChangeAt Go.RowKit
theorem recurses3 : (Rows.collectSwitchesRow.recurses == Tryz.prog.recurses 3) = true := by kernel_rfl
theorem named3 : (Rows.collectSwitchesRow.named == Tryz.prog.varsNamed 3) = true := by kernel_rfl
end Go.Proofs.YtkmkbmkaeopilaaGreat.facts
