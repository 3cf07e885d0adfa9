/- A call that is run once. Conditions: none. -/
import Derived.Test.YtdckaphpejgnjaaGreatRexZ
import Derived.Test.YtdckaphpejgnjaaGreatRexSD
import Derived.Test.YtdckaphpejgnjaaGreatRexSP2
import Derived.Test.YtdckaphpejgnjaaGreatRexSP5
import Derived.Test.YtdckaphpejgnjaaGreatRexSP7
import Derived.Test.YtdckaphpejgnjaaGreatRexSP9
namespace Go.Rex.RexS
noncomputable def ms10 (f : Nat) : List Memo := findN [] f [(81, [{ m2 with keep := [(z 0)] }]), (82, [{ m5 with keep := [(z 4122), (z 0)] }]), (83, [{ m7 with keep := [(z 4122), (z 7884), (z 0)] }, { m9 with keep := [(z 4122), (z 10754), (z 7884), (z 0), (z 10753), (z 10751)] }])]
theorem m10_ok : m10.Ok Go.Proofs.Tryz.prog 13 :=
  ran_ofB (callM_ok follows_mixed Pl plans_ok ms10 (table_ok (rows_cons (memos_cons m2_ok memos_nil) (rows_cons (memos_cons m5_ok memos_nil) (rows_cons (memos_cons m7_ok (memos_cons m9_ok memos_nil)) rows_nil)))) 1000000 300) (by kernel_rfl)
end Go.Rex.RexS
