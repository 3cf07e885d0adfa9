/- A call that is run once. Conditions: none. -/
import Derived.Test.YtdckaphpejgnjaaGreatRexCD
import Derived.Test.YtdckaphpejgnjaaGreatRexCP0
import Derived.Test.YtdckaphpejgnjaaGreatRexCP1
namespace Go.Rex.RexC
noncomputable def ms2 (f : Nat) : List Memo := findN [] f [(159, [{ m0 with keep := [(z 4)] }]), (160, [{ m1 with keep := [(z 4), (z 1695)] }])]
theorem m2_ok : m2.Ok Go.Proofs.Tryz.prog 81 :=
  ran_ofB (callM_ok follows_mixed Pl plans_ok ms2 (table_ok (rows_cons (memos_cons m0_ok memos_nil) (rows_cons (memos_cons m1_ok memos_nil) rows_nil))) 1000000 300) (by kernel_rfl)
end Go.Rex.RexC
