/- A call that is run once. Conditions: none. -/
import Derived.Test.YtdckaphpejgnjaaGreatRexZ
import Derived.Test.YtdckaphpejgnjaaGreatRexFD
import Derived.Test.YtdckaphpejgnjaaGreatRexFP2
import Derived.Test.YtdckaphpejgnjaaGreatRexFP5
namespace Go.Rex.RexF
noncomputable def ms7 (f : Nat) : List Memo := findN [] f [(81, [{ m2 with keep := [(z 64), (z 0), (z 63)] }]), (82, [{ m5 with keep := [(z 64), (z 0), (z 4691), (z 63)] }])]
theorem m7_ok : m7.Ok Go.Proofs.Tryz.prog 37 :=
  ran_ofB (callM_ok follows_mixed Pl plans_ok ms7 (table_ok (rows_cons (memos_cons m2_ok memos_nil) (rows_cons (memos_cons m5_ok memos_nil) rows_nil))) 1000000 300) (by kernel_rfl)
end Go.Rex.RexF
