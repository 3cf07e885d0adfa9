/- A call that is run once. Conditions: none. -/
import Derived.Test.YtdckaphpejgnjaaGreatRexZ
import Derived.Test.YtdckaphpejgnjaaGreatRexFD
import Derived.Test.YtdckaphpejgnjaaGreatRexFP6
import Derived.Test.YtdckaphpejgnjaaGreatRexFP7
import Derived.Test.YtdckaphpejgnjaaGreatRexFP8
import Derived.Test.YtdckaphpejgnjaaGreatRexFP9
import Derived.Test.YtdckaphpejgnjaaGreatRexFP10
import Derived.Test.YtdckaphpejgnjaaGreatRexFP11
import Derived.Test.YtdckaphpejgnjaaGreatRexFP12
import Derived.Test.YtdckaphpejgnjaaGreatRexFP13
import Derived.Test.YtdckaphpejgnjaaGreatRexFP14
import Derived.Test.YtdckaphpejgnjaaGreatRexFP15
namespace Go.Rex.RexF
noncomputable def ms16 (f : Nat) : List Memo := findN [] f [(37, [{ m6 with keep := [] }, { m7 with keep := [] }, { m8 with keep := [] }, { m9 with keep := [] }, { m10 with keep := [] }, { m11 with keep := [] }, { m12 with keep := [] }, { m13 with keep := [] }, { m14 with keep := [] }, { m15 with keep := [] }])]
theorem m16_ok : m16.Ok Go.Proofs.Tryz.prog 8 :=
  ran_ofB (callM_ok follows_mixed Pl plans_ok ms16 (table_ok (rows_cons (memos_cons m6_ok (memos_cons m7_ok (memos_cons m8_ok (memos_cons m9_ok (memos_cons m10_ok (memos_cons m11_ok (memos_cons m12_ok (memos_cons m13_ok (memos_cons m14_ok (memos_cons m15_ok memos_nil)))))))))) rows_nil)) 1000000 300) (by kernel_rfl)
end Go.Rex.RexF
