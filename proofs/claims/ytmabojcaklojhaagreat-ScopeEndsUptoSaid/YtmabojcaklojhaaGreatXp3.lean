/- Part Xp3 of the proof of ScopeEnds: no condition. -/
import Derived.Test.YtmabojcaklojhaaGreatXs
namespace Go.Rex.RexS
noncomputable def ms5 (f:Nat):List Memo:=findN [] f []
theorem m5_ok:m5.Ok Go.Proofs.Tryz.prog 114 :=
 ran_ofB (callM_ok follows_mixed Pl plans_ok ms5 (table_ok rows_nil) 1000000 300) (by kernel_rfl)
noncomputable def ms6 (f:Nat):List Memo:=findN [] f [(114,[{ m5 with keep:=[(z 7884)] }])]
theorem m6_ok:m6.Ok Go.Proofs.Tryz.prog 148 :=
 ran_ofB (callM_ok follows_mixed Pl plans_ok ms6 (table_ok (rows_cons (memos_cons m5_ok memos_nil) rows_nil)) 1000000 300) (by kernel_rfl)
noncomputable def ms7 (f:Nat):List Memo:=findN [] f []
theorem m7_ok:m7.Ok Go.Proofs.Tryz.prog 114 :=
 ran_ofB (callM_ok follows_mixed Pl plans_ok ms7 (table_ok rows_nil) 1000000 300) (by kernel_rfl)
noncomputable def ms8 (f:Nat):List Memo:=findN [] f [(114,[{ m7 with keep:=[(z 10754)] }])]
theorem m8_ok:m8.Ok Go.Proofs.Tryz.prog 148 :=
 ran_ofB (callM_ok follows_mixed Pl plans_ok ms8 (table_ok (rows_cons (memos_cons m7_ok memos_nil) rows_nil)) 1000000 300) (by kernel_rfl)
noncomputable def ms9 (f:Nat):List Memo:=findN [] f []
theorem m9_ok:m9.Ok Go.Proofs.Tryz.prog 10 :=
 ran_ofB (callM_ok follows_mixed Pl plans_ok ms9 (table_ok rows_nil) 1000000 300) (by kernel_rfl)
end Go.Rex.RexS
