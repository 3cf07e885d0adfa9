/- A call that is run once. Conditions: none. -/
import Derived.Test.YtdckaphpejgnjaaGreatRexZ
import Derived.Test.YtdckaphpejgnjaaGreatRexFD
import Derived.Test.YtdckaphpejgnjaaGreatRexFP0
import Derived.Test.YtdckaphpejgnjaaGreatRexFP1
namespace Go.Rex.RexF
noncomputable def ms2 (f : Nat) : List Memo := findN [] f [(159, [{ m0 with keep := [(z 67)] }]), (160, [{ m1 with keep := [(z 1469), (z 67)] }])]
theorem m2_ok : m2.Ok Go.Proofs.Tryz.prog 81 :=
  ran_ofB (callM_ok follows_mixed Pl plans_ok ms2 (table_ok (rows_cons (memos_cons m0_ok memos_nil) (rows_cons (memos_cons m1_ok memos_nil) rows_nil))) 1000000 300) (by kernel_rfl)
end Go.Rex.RexF
