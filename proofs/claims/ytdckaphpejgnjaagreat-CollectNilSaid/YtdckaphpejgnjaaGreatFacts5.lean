/- Closed facts about the law's function, all. No condition. -/
import Derived.Test.YtdckaphpejgnjaaGreatFacts
import Derived.Test.YtdckaphpejgnjaaGreatFactsM
import Derived.Test.YtdckaphpejgnjaaGreatFactsL
import Derived.Test.YtdckaphpejgnjaaGreatFacts5a
import Derived.Test.YtdckaphpejgnjaaGreatFacts5b
namespace Go.Proofs.YtdckaphpejgnjaaGreat.facts
open Go.ChangeShapes Go.WideShapes Go.ChangeAt Go.RowKit
theorem wf5 : Rows.collectNilRow.wf (OpenSpec.ofChange Rows.collectNilSpec) = true := by kernel_rfl
theorem closed5 : joinedFacts Tryz.prog 5 Tryz.f5 Rows.collectNilSpec Rows.collectNilRow = true := by
  unfold joinedFacts
  exact and2 (and2 (and2 (and2 (and2 (and2 (and2 (and2 (and2 (and2 (and2 (and2 (and2 (and2 (and2 (and2 (and2 (and2 (and2 (and2 (and2 (and2 (and2 (and2 (and2 (and2 (and2 (and2 (and2 (and2 (and2 wf5 laidOut) maps) (by kernel_rfl)) (by kernel_rfl)) (by kernel_rfl)) stops) (by kernel_rfl)) stopKnobs)
    inPlace5) unfollowed5) recurses5) named5) (by kernel_rfl)) (by kernel_rfl)) (by kernel_rfl)) (by kernel_rfl)) (by kernel_rfl)) (by kernel_rfl)) (by kernel_rfl)) (by kernel_rfl)) (by kernel_rfl)) keys) (by kernel_rfl)) stopsHeard) mayEnter) lifts) made) (by kernel_rfl)) (by kernel_rfl)) (by kernel_rfl)) (by kernel_rfl)
end Go.Proofs.YtdckaphpejgnjaaGreat.facts
