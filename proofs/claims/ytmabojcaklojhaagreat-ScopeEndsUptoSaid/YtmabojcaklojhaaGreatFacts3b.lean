/- Closed facts about the law's function: what it reaches. No condition. -/
import Derived.Test.YtmabojcaklojhaaGreatRows
import Derived.WalkKit
import Derived.ProofKit
import Derived.OpenShut
namespace Go.Proofs.YtmabojcaklojhaaGreat.facts
open Go.ChangeShapes Go.WideShapes Go.ChangeAt Go.RowKit
theorem recurses3 : (Rows.scopeEndsUptoRow.recurses == Tryz.prog.recurses 3) = true := by kernel_rfl
theorem named3 : (Rows.scopeEndsUptoRow.named == Tryz.prog.varsNamed 3) = true := by kernel_rfl
end Go.Proofs.YtmabojcaklojhaaGreat.facts
