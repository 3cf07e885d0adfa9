/- Part Xp0 of the proof of ScopeEnds: no condition. -/
import Derived.Test.YtmabojcaklojhaaGreatXs
namespace Go.Rex.RexS
noncomputable def ms0 (f:Nat):List Memo:=findN [] f []
theorem m0_ok:m0.Ok Go.Proofs.Tryz.prog 158 :=
 ran_ofB (callM_ok follows_mixed Pl plans_ok ms0 (table_ok rows_nil) 1000000 300) (by kernel_rfl)
end Go.Rex.RexS
