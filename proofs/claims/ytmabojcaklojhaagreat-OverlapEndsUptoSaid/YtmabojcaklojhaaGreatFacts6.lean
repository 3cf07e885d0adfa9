/- Closed facts about the law's function, all. No condition. -/
import Derived.Test.YtmabojcaklojhaaGreatFacts
import Derived.Test.YtmabojcaklojhaaGreatFactsM
import Derived.Test.YtmabojcaklojhaaGreatFactsL
import Derived.Test.YtmabojcaklojhaaGreatFacts6a
import Derived.Test.YtmabojcaklojhaaGreatFacts6b
namespace Go.Proofs.YtmabojcaklojhaaGreat.facts
open Go.ChangeShapes Go.WideShapes Go.ChangeAt Go.RowKit
theorem wf6 : Rows.overlapEndsUptoRow.wf (OpenSpec.ofChange (Rows.OpenSpec.upto Rows.overlapEndsSpec).bare) = true := by kernel_rfl
theorem closed6 : joinedFacts Tryz.prog 6 Tryz.f6 (Rows.OpenSpec.upto Rows.overlapEndsSpec).bare Rows.overlapEndsUptoRow = true := by
  unfold joinedFacts
  exact and2 (and2 (and2 (and2 (and2 (and2 (and2 (and2 (and2 (and2 (and2 (and2 (and2 (and2 (and2 (and2 (and2 (and2 (and2 (and2 (and2 (and2 (and2 (and2 (and2 (and2 (and2 (and2 (and2 (and2 (and2 wf6 laidOut) maps) (by kernel_rfl)) (by kernel_rfl)) (by kernel_rfl)) stops) (by kernel_rfl)) stopKnobs)
    inPlace6) unfollowed6) recurses6) named6) (by kernel_rfl)) (by kernel_rfl)) (by kernel_rfl)) (by kernel_rfl)) (by kernel_rfl)) (by kernel_rfl)) (by kernel_rfl)) (by kernel_rfl)) (by kernel_rfl)) keys) (by kernel_rfl)) stopsHeard) mayEnter) lifts) made) (by kernel_rfl)) (by kernel_rfl)) (by kernel_rfl)) (by kernel_rfl)
end Go.Proofs.YtmabojcaklojhaaGreat.facts
