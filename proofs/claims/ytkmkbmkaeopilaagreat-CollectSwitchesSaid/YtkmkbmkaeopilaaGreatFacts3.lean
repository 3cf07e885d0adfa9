/- Closed facts about the law's function, all. No condition. -/
import Derived.Test.YtkmkbmkaeopilaaGreatFacts
import Derived.Test.YtkmkbmkaeopilaaGreatFactsM
import Derived.Test.YtkmkbmkaeopilaaGreatFactsL
import Derived.Test.YtkmkbmkaeopilaaGreatFacts3a
import Derived.Test.YtkmkbmkaeopilaaGreatFacts3b
namespace Go.Proofs.YtkmkbmkaeopilaaGreat.facts
open Go.ChangeShapes Go.WideShapes Go.ChangeAt Go.RowKit
theorem wf3 : Rows.collectSwitchesRow.wf (OpenSpec.ofChange Rows.collectSwitchesSpec) = true := by kernel_rfl
theorem closed3 : joinedFacts Tryz.prog 3 Tryz.f3 Rows.collectSwitchesSpec Rows.collectSwitchesRow = true := by
  unfold joinedFacts
  exact and2 (and2 (and2 (and2 (and2 (and2 (and2 (and2 (and2 (and2 (and2 (and2 (and2 (and2 (and2 (and2 (and2 (and2 (and2 (and2 (and2 (and2 (and2 (and2 (and2 (and2 (and2 (and2 (and2 (and2 (and2 wf3 laidOut) maps) (by kernel_rfl)) (by kernel_rfl)) (by kernel_rfl)) stops) (by kernel_rfl)) stopKnobs)
    inPlace3) unfollowed3) recurses3) named3) (by kernel_rfl)) (by kernel_rfl)) (by kernel_rfl)) (by kernel_rfl)) (by kernel_rfl)) (by kernel_rfl)) (by kernel_rfl)) (by kernel_rfl)) (by kernel_rfl)) keys) (by kernel_rfl)) stopsHeard) mayEnter) lifts) made) (by kernel_rfl)) (by kernel_rfl)) (by kernel_rfl)) (by kernel_rfl)
end Go.Proofs.YtkmkbmkaeopilaaGreat.facts
