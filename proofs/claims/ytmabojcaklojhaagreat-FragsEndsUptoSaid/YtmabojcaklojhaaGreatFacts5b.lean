/- Closed facts about the law's function: what it reaches. No condition. -/
import Derived.Test.YtmabojcaklojhaaGreatRows
import Derived.WalkKit
import Derived.ProofKit
import Derived.OpenShut
namespace Go.Proofs.YtmabojcaklojhaaGreat.facts
open Go.ChangeShapes Go.WideShapes Go.ChangeAt Go.RowKit
theorem recurses5 : (Rows.fragsEndsUptoRow.recurses == Tryz.prog.recurses 5) = true := by kernel_rfl
theorem named5 : (Rows.fragsEndsUptoRow.named == Tryz.prog.varsNamed 5) = true := by kernel_rfl
end Go.Proofs.YtmabojcaklojhaaGreat.facts
