/- Part Xp5 of the proof of ScopeEnds: no condition. -/
import Derived.Test.YtmabojcaklojhaaGreatXp0
import Derived.Test.YtmabojcaklojhaaGreatXp1
import Derived.Test.YtmabojcaklojhaaGreatXp2
import Derived.Test.YtmabojcaklojhaaGreatXp3
import Derived.Test.YtmabojcaklojhaaGreatXp4
namespace Go.Rex.RexS
noncomputable def ms2 (f:Nat):List Memo:=findN [] f [(158,[{ m0 with keep:=[(z 3)] }]),(160,[{ m1 with keep:=[(z 3)] }])]
theorem m2_ok:m2.Ok Go.Proofs.Tryz.prog 112 :=
 ran_ofB (callM_ok follows_mixed Pl plans_ok ms2 (table_ok (rows_cons (memos_cons m0_ok memos_nil) (rows_cons (memos_cons m1_ok memos_nil) rows_nil))) 1000000 300) (by kernel_rfl)
noncomputable def ms4 (f:Nat):List Memo:=findN [] f [(112,[{ m2 with keep:=[] }]),(113,[{ m3 with keep:=[(z 4122)] }])]
theorem m4_ok:m4.Ok Go.Proofs.Tryz.prog 147 :=
 ran_ofB (callM_ok follows_mixed Pl plans_ok ms4 (table_ok (rows_cons (memos_cons m2_ok memos_nil) (rows_cons (memos_cons m3_ok memos_nil) rows_nil))) 1000000 300) (by kernel_rfl)
noncomputable def ms13 (f:Nat):List Memo:=findN [] f [(147,[{ m4 with keep:=[(z 0)] }]),(148,[{ m6 with keep:=[(z 0)] },{ m8 with keep:=[(z 0),(z 10753)] }]),(10,[{ m9 with keep:=[(z 0),(z 10753),(z 13623)] }]),(11,[{ m10 with keep:=[(z 0),(z 10753),(z 13623)] }]),(115,[{ m11 with keep:=[(z 14374),(z 13626),(z 13628),(z 14540),(z 14404),(z 13624),(z 14392),(z 14952),(z 14432),(z 0),(z 14413),(z 13625),(z 14425),(z 14377),(z 10753),(z 13627),(z 14539),(z 14419),(z 13623)] }]),(139,[{ m12 with keep:=[(z 14374),(z 13626),(z 13628),(z 14540),(z 14404),(z 13624),(z 14392),(z 14952),(z 14432),(z 0),(z 14413),(z 13625),(z 14425),(z 14377),(z 10753),(z 13627),(z 14539),(z 14419),(z 13623)] }])]
theorem m13_ok:m13.Ok Go.Proofs.Tryz.prog 7 :=
 ran_ofB (callM_ok follows_mixed Pl plans_ok ms13 (table_ok (rows_cons (memos_cons m4_ok memos_nil) (rows_cons (memos_cons m6_ok (memos_cons m8_ok memos_nil)) (rows_cons (memos_cons m9_ok memos_nil) (rows_cons (memos_cons m10_ok memos_nil) (rows_cons (memos_cons m11_ok memos_nil) (rows_cons (memos_cons m12_ok memos_nil) rows_nil))))))) 1000000 300) (by kernel_rfl)
end Go.Rex.RexS
