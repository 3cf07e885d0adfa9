/- Closed facts about the law's function, all. No condition. -/
import Derived.Test.YtdckaphpejgnjaaGreatFacts
import Derived.Test.YtdckaphpejgnjaaGreatFactsM
import Derived.Test.YtdckaphpejgnjaaGreatFactsL
import Derived.Test.YtdckaphpejgnjaaGreatFacts8a
import Derived.Test.YtdckaphpejgnjaaGreatFacts8b
namespace Go.Proofs.YtdckaphpejgnjaaGreat.facts
open Go.ChangeShapes Go.WideShapes Go.ChangeAt Go.RowKit
theorem wf8 : Rows.fragsTellsRow.wf (OpenSpec.ofChange Rows.fragsTellsSpec) = true := by kernel_rfl
theorem closed8 : joinedFacts Tryz.prog 8 Tryz.f8 Rows.fragsTellsSpec Rows.fragsTellsRow = true := by
  unfold joinedFacts
  exact and2 (and2 (and2 (and2 (and2 (and2 (and2 (and2 (and2 (and2 (and2 (and2 (and2 (and2 (and2 (and2 (and2 (and2 (and2 (and2 (and2 (and2 (and2 (and2 (and2 (and2 (and2 (and2 (and2 (and2 (and2 wf8 laidOut) maps) (by kernel_rfl)) (by kernel_rfl)) (by kernel_rfl)) stops) (by kernel_rfl)) stopKnobs)
    inPlace8) unfollowed8) recurses8) named8) (by kernel_rfl)) (by kernel_rfl)) (by kernel_rfl)) (by kernel_rfl)) (by kernel_rfl)) (by kernel_rfl)) (by kernel_rfl)) (by kernel_rfl)) (by kernel_rfl)) keys) (by kernel_rfl)) stopsHeard) mayEnter) lifts) made) (by kernel_rfl)) (by kernel_rfl)) (by kernel_rfl)) (by kernel_rfl)
end Go.Proofs.YtdckaphpejgnjaaGreat.facts
