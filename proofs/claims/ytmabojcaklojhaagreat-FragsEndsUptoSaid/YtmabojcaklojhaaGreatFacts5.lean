/- Closed facts about the law's function, all. No condition. -/
import Derived.Test.YtmabojcaklojhaaGreatFacts
import Derived.Test.YtmabojcaklojhaaGreatFactsM
import Derived.Test.YtmabojcaklojhaaGreatFactsL
import Derived.Test.YtmabojcaklojhaaGreatFacts5a
import Derived.Test.YtmabojcaklojhaaGreatFacts5b
namespace Go.Proofs.YtmabojcaklojhaaGreat.facts
open Go.ChangeShapes Go.WideShapes Go.ChangeAt Go.RowKit
theorem wf5 : Rows.fragsEndsUptoRow.wf (OpenSpec.ofChange (Rows.OpenSpec.upto Rows.fragsEndsSpec).bare) = true := by kernel_rfl
theorem closed5 : joinedFacts Tryz.prog 5 Tryz.f5 (Rows.OpenSpec.upto Rows.fragsEndsSpec).bare Rows.fragsEndsUptoRow = true := by
  unfold joinedFacts
  exact and2 (and2 (and2 (and2 (and2 (and2 (and2 (and2 (and2 (and2 (and2 (and2 (and2 (and2 (and2 (and2 (and2 (and2 (and2 (and2 (and2 (and2 (and2 (and2 (and2 (and2 (and2 (and2 (and2 (and2 (and2 wf5 laidOut) maps) (by kernel_rfl)) (by kernel_rfl)) (by kernel_rfl)) stops) (by kernel_rfl)) stopKnobs)
    inPlace5) unfollowed5) recurses5) named5) (by kernel_rfl)) (by kernel_rfl)) (by kernel_rfl)) (by kernel_rfl)) (by kernel_rfl)) (by kernel_rfl)) (by kernel_rfl)) (by kernel_rfl)) (by kernel_rfl)) keys) (by kernel_rfl)) stopsHeard) mayEnter) lifts) made) (by kernel_rfl)) (by kernel_rfl)) (by kernel_rfl)) (by kernel_rfl)
end Go.Proofs.YtmabojcaklojhaaGreat.facts
