/- Closed facts about the law's function, all. No condition. -/
import Derived.Test.YtmabojcaklojhaaGreatFacts
import Derived.Test.YtmabojcaklojhaaGreatFactsM
import Derived.Test.YtmabojcaklojhaaGreatFactsL
import Derived.Test.YtmabojcaklojhaaGreatFacts4a
import Derived.Test.YtmabojcaklojhaaGreatFacts4b
namespace Go.Proofs.YtmabojcaklojhaaGreat.facts
open Go.ChangeShapes Go.WideShapes Go.ChangeAt Go.RowKit
theorem wf4 : Rows.collectEndsUptoRow.wf (OpenSpec.ofChange (Rows.OpenSpec.upto Rows.collectEndsSpec).bare) = true := by kernel_rfl
theorem closed4 : joinedFacts Tryz.prog 4 Tryz.f4 (Rows.OpenSpec.upto Rows.collectEndsSpec).bare Rows.collectEndsUptoRow = true := by
  unfold joinedFacts
  exact and2 (and2 (and2 (and2 (and2 (and2 (and2 (and2 (and2 (and2 (and2 (and2 (and2 (and2 (and2 (and2 (and2 (and2 (and2 (and2 (and2 (and2 (and2 (and2 (and2 (and2 (and2 (and2 (and2 (and2 (and2 wf4 laidOut) maps) (by kernel_rfl)) (by kernel_rfl)) (by kernel_rfl)) stops) (by kernel_rfl)) stopKnobs)
    inPlace4) unfollowed4) recurses4) named4) (by kernel_rfl)) (by kernel_rfl)) (by kernel_rfl)) (by kernel_rfl)) (by kernel_rfl)) (by kernel_rfl)) (by kernel_rfl)) (by kernel_rfl)) (by kernel_rfl)) keys) (by kernel_rfl)) stopsHeard) mayEnter) lifts) made) (by kernel_rfl)) (by kernel_rfl)) (by kernel_rfl)) (by kernel_rfl)
end Go.Proofs.YtmabojcaklojhaaGreat.facts
