/- Part Xp4 of the proof of ScopeEnds: no condition. -/
import Derived.Test.YtmabojcaklojhaaGreatXs
namespace Go.Rex.RexS
noncomputable def ms10 (f:Nat):List Memo:=findN [] f []
theorem m10_ok:m10.Ok Go.Proofs.Tryz.prog 11 :=
 ran_ofB (callM_ok follows_mixed Pl plans_ok ms10 (table_ok rows_nil) 1000000 300) (by kernel_rfl)
noncomputable def ms11 (f:Nat):List Memo:=findN [] f []
theorem m11_ok:m11.Ok Go.Proofs.Tryz.prog 115 :=
 ran_ofB (callM_ok follows_mixed Pl plans_ok ms11 (table_ok rows_nil) 1000000 300) (by kernel_rfl)
noncomputable def ms12 (f:Nat):List Memo:=findN [] f []
theorem m12_ok:m12.Ok Go.Proofs.Tryz.prog 139 :=
 ran_ofB (callM_ok follows_mixed Pl plans_ok ms12 (table_ok rows_nil) 1000000 300) (by kernel_rfl)
end Go.Rex.RexS
