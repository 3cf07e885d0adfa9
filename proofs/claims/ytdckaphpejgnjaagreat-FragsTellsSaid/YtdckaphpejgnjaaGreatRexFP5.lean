/- A call that is run once. Conditions: none. -/
import Derived.Test.YtdckaphpejgnjaaGreatRexZ
import Derived.Test.YtdckaphpejgnjaaGreatRexFD
import Derived.Test.YtdckaphpejgnjaaGreatRexFP3
import Derived.Test.YtdckaphpejgnjaaGreatRexFP4
namespace Go.Rex.RexF
noncomputable def ms5 (f : Nat) : List Memo := findN [] f [(84, [{ m3 with keep := [] }]), (165, [{ m4 with keep := [(z 5870), (z 5498), (z 5530), (z 5868), (z 5360), (z 5865), (z 5863)] }])]
theorem m5_ok : m5.Ok Go.Proofs.Tryz.prog 82 :=
  ran_ofB (callM_ok follows_mixed Pl plans_ok ms5 (table_ok (rows_cons (memos_cons m3_ok memos_nil) (rows_cons (memos_cons m4_ok memos_nil) rows_nil))) 1000000 300) (by kernel_rfl)
end Go.Rex.RexF
