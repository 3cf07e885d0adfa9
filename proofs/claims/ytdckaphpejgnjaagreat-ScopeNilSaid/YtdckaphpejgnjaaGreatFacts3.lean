/- Closed facts about the law's function, all. No condition. -/
import Derived.Test.YtdckaphpejgnjaaGreatFacts
import Derived.Test.YtdckaphpejgnjaaGreatFactsM
import Derived.Test.YtdckaphpejgnjaaGreatFactsL
import Derived.Test.YtdckaphpejgnjaaGreatFacts3a
import Derived.Test.YtdckaphpejgnjaaGreatFacts3b
namespace Go.Proofs.YtdckaphpejgnjaaGreat.facts
open Go.ChangeShapes Go.WideShapes Go.ChangeAt Go.RowKit
theorem wf3 : Rows.scopeNilRow.wf (OpenSpec.ofChange Rows.scopeNilSpec) = true := by kernel_rfl
theorem closed3 : joinedFacts Tryz.prog 3 Tryz.f3 Rows.scopeNilSpec Rows.scopeNilRow = true := by
  unfold joinedFacts
  exact and2 (and2 (and2 (and2 (and2 (and2 (and2 (and2 (and2 (and2 (and2 (and2 (and2 (and2 (and2 (and2 (and2 (and2 (and2 (and2 (and2 (and2 (and2 (and2 (and2 (and2 (and2 (and2 (and2 (and2 (and2 wf3 laidOut) maps) (by kernel_rfl)) (by kernel_rfl)) (by kernel_rfl)) stops) (by kernel_rfl)) stopKnobs)
    inPlace3) unfollowed3) recurses3) named3) (by kernel_rfl)) (by kernel_rfl)) (by kernel_rfl)) (by kernel_rfl)) (by kernel_rfl)) (by kernel_rfl)) (by kernel_rfl)) (by kernel_rfl)) (by kernel_rfl)) keys) (by kernel_rfl)) stopsHeard) mayEnter) lifts) made) (by kernel_rfl)) (by kernel_rfl)) (by kernel_rfl)) (by kernel_rfl)
end Go.Proofs.YtdckaphpejgnjaaGreat.facts
