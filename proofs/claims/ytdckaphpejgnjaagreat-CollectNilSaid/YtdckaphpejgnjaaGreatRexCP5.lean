/- A call that is run once. Conditions: none. -/
import Derived.Test.YtdckaphpejgnjaaGreatRexCD
import Derived.Test.YtdckaphpejgnjaaGreatRexCP3
import Derived.Test.YtdckaphpejgnjaaGreatRexCP4
namespace Go.Rex.RexC
noncomputable def ms5 (f : Nat) : List Memo := findN [] f [(84, [{ m3 with keep := [] }]), (165, [{ m4 with keep := [(z 6254), (z 5882), (z 5914), (z 6252), (z 5744), (z 6249), (z 6247)] }])]
theorem m5_ok : m5.Ok Go.Proofs.Tryz.prog 82 :=
  ran_ofB (callM_ok follows_mixed Pl plans_ok ms5 (table_ok (rows_cons (memos_cons m3_ok memos_nil) (rows_cons (memos_cons m4_ok memos_nil) rows_nil))) 1000000 300) (by kernel_rfl)
end Go.Rex.RexC
