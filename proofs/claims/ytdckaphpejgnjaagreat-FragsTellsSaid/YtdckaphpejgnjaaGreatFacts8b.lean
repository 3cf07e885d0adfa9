/- Closed facts about the law's function: what it reaches. No condition. -/
import Derived.Test.YtdckaphpejgnjaaGreatRows
import Derived.WalkKit
import Derived.ProofKit
import Derived.OpenShut
namespace Go.Proofs.YtdckaphpejgnjaaGreat.facts
open Go.ChangeShapes Go.WideShapes Go.ChangeAt Go.RowKit
theorem recurses8 : (Rows.fragsTellsRow.recurses == Tryz.prog.recurses 8) = true := by kernel_rfl
theorem named8 : (Rows.fragsTellsRow.named == Tryz.prog.varsNamed 8) = true := by kernel_rfl
end Go.Proofs.YtdckaphpejgnjaaGreat.facts
