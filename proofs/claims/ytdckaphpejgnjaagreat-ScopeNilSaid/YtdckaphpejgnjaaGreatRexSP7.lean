/- A call that is run once. Conditions: none. -/
import Derived.Test.YtdckaphpejgnjaaGreatRexSD
import Derived.Test.YtdckaphpejgnjaaGreatRexSP6
namespace Go.Rex.RexS
noncomputable def ms7 (f : Nat) : List Memo := findN [] f [(159, [{ m6 with keep := [(z 7888), (z 7887)] }])]
theorem m7_ok : m7.Ok Go.Proofs.Tryz.prog 83 :=
  ran_of (callM_ok follows_mixed Pl plans_ok ms7 (table_ok (rows_cons (memos_cons m6_ok memos_nil) rows_nil)) 1000000 300) (by kernel_rfl)
end Go.Rex.RexS
