/- Closed facts about the law's function: what it reaches. No condition. -/
import Derived.Test.YtmabojcaklojhaaGreatRows
import Derived.WalkKit
import Derived.ProofKit
import Derived.OpenShut
namespace Go.Proofs.YtmabojcaklojhaaGreat.facts
open Go.ChangeShapes Go.WideShapes Go.ChangeAt Go.RowKit
theorem recurses4 : (Rows.collectEndsUptoRow.recurses == Tryz.prog.recurses 4) = true := by kernel_rfl
theorem named4 : (Rows.collectEndsUptoRow.named == Tryz.prog.varsNamed 4) = true := by kernel_rfl
end Go.Proofs.YtmabojcaklojhaaGreat.facts
