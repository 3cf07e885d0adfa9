/- Part Xp1 of the proof of ScopeEnds: no condition. -/
import Derived.Test.YtmabojcaklojhaaGreatXs
namespace Go.Rex.RexS
noncomputable def ms1 (f:Nat):List Memo:=findN [] f []
theorem m1_ok:m1.Ok Go.Proofs.Tryz.prog 160 :=
 ran_ofB (callM_ok follows_mixed Pl plans_ok ms1 (table_ok rows_nil) 1000000 300) (by kernel_rfl)
end Go.Rex.RexS
