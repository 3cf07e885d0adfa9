/- Closed facts about the law's function, all. No condition. -/
import Derived.Test.YtmabojcaklojhaaGreatFacts
import Derived.Test.YtmabojcaklojhaaGreatFactsM
import Derived.Test.YtmabojcaklojhaaGreatFactsL
import Derived.Test.YtmabojcaklojhaaGreatFacts3a
import Derived.Test.YtmabojcaklojhaaGreatFacts3b
namespace Go.Proofs.YtmabojcaklojhaaGreat.facts
open Go.ChangeShapes Go.WideShapes Go.ChangeAt Go.RowKit
theorem wf3 : Rows.scopeEndsUptoRow.wf (OpenSpec.ofChange (Rows.OpenSpec.upto Rows.scopeEndsSpec).bare) = true := by kernel_rfl
theorem closed3 : joinedFacts Tryz.prog 3 Tryz.f3 (Rows.OpenSpec.upto Rows.scopeEndsSpec).bare Rows.scopeEndsUptoRow = true := by
  unfold joinedFacts
  exact and2 (and2 (and2 (and2 (and2 (and2 (and2 (and2 (and2 (and2 (and2 (and2 (and2 (and2 (and2 (and2 (and2 (and2 (and2 (and2 (and2 (and2 (and2 (and2 (and2 (and2 (and2 (and2 (and2 (and2 (and2 wf3 laidOut) maps) (by kernel_rfl)) (by kernel_rfl)) (by kernel_rfl)) stops) (by kernel_rfl)) stopKnobs)
    inPlace3) unfollowed3) recurses3) named3) (by kernel_rfl)) (by kernel_rfl)) (by kernel_rfl)) (by kernel_rfl)) (by kernel_rfl)) (by kernel_rfl)) (by kernel_rfl)) (by kernel_rfl)) (by kernel_rfl)) keys) (by kernel_rfl)) stopsHeard) mayEnter) lifts) made) (by kernel_rfl)) (by kernel_rfl)) (by kernel_rfl)) (by kernel_rfl)
end Go.Proofs.YtmabojcaklojhaaGreat.facts
