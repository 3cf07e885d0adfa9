/- Part Xp2 of the proof of ScopeEnds: no condition. -/
import Derived.Test.YtmabojcaklojhaaGreatXs
namespace Go.Rex.RexS
noncomputable def ms3 (f:Nat):List Memo:=findN [] f []
theorem m3_ok:m3.Ok Go.Proofs.Tryz.prog 113 :=
 ran_ofB (callM_ok follows_mixed Pl plans_ok ms3 (table_ok rows_nil) 1000000 300) (by kernel_rfl)
end Go.Rex.RexS
