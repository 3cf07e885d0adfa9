/- A call that is run once. Conditions: none. -/
import Derived.Test.YtdckaphpejgnjaaGreatRexSD
import Derived.Test.YtdckaphpejgnjaaGreatRexSP3
import Derived.Test.YtdckaphpejgnjaaGreatRexSP4
namespace Go.Rex.RexS
noncomputable def ms5 (f : Nat) : List Memo := findN [] f [(84, [{ m3 with keep := [] }]), (165, [{ m4 with keep := [(z 4902), (z 4934), (z 5274), (z 4764), (z 5272), (z 5269), (z 5267)] }])]
theorem m5_ok : m5.Ok Go.Proofs.Tryz.prog 82 :=
  ran_of (callM_ok follows_mixed Pl plans_ok ms5 (table_ok (rows_cons (memos_cons m3_ok memos_nil) (rows_cons (memos_cons m4_ok memos_nil) rows_nil))) 1000000 300) (by kernel_rfl)
end Go.Rex.RexS
