/- Closed facts about the law's function: what it reaches. No condition. -/
import Derived.Test.YtmabojcaklojhaaGreatRows
import Derived.WalkKit
import Derived.ProofKit
import Derived.OpenShut
namespace Go.Proofs.YtmabojcaklojhaaGreat.facts
open Go.ChangeShapes Go.WideShapes Go.ChangeAt Go.RowKit
theorem recurses6 : (Rows.overlapEndsUptoRow.recurses == Tryz.prog.recurses 6) = true := by kernel_rfl
theorem named6 : (Rows.overlapEndsUptoRow.named == Tryz.prog.varsNamed 6) = true := by kernel_rfl
end Go.Proofs.YtmabojcaklojhaaGreat.facts
