/- A call that is run once. Conditions: none. -/
import Derived.Test.YtdckaphpejgnjaaGreatRexCD
import Derived.Test.YtdckaphpejgnjaaGreatRexCP2
import Derived.Test.YtdckaphpejgnjaaGreatRexCP5
import Derived.Test.YtdckaphpejgnjaaGreatRexCP6
import Derived.Test.YtdckaphpejgnjaaGreatRexCP7
namespace Go.Rex.RexC
noncomputable def ms8 (f : Nat) : List Memo := findN [] f [(81, [{ m2 with keep := [(z 0), (z 1)] }]), (82, [{ m5 with keep := [(z 0), (z 1), (z 5083)] }]), (83, [{ m6 with keep := [(z 0), (z 1), (z 5083)] }]), (84, [{ m7 with keep := [(z 10542), (z 0), (z 10541), (z 1), (z 5083)] }])]
theorem m8_ok : m8.Ok Go.Proofs.Tryz.prog 30 :=
  ran_ofB (callM_ok follows_mixed Pl plans_ok ms8 (table_ok (rows_cons (memos_cons m2_ok memos_nil) (rows_cons (memos_cons m5_ok memos_nil) (rows_cons (memos_cons m6_ok memos_nil) (rows_cons (memos_cons m7_ok memos_nil) rows_nil))))) 1000000 300) (by kernel_rfl)
end Go.Rex.RexC
