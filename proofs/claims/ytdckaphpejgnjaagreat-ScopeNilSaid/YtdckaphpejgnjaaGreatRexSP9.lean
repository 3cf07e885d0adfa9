/- A call that is run once. Conditions: none. -/
import Derived.Test.YtdckaphpejgnjaaGreatRexSD
import Derived.Test.YtdckaphpejgnjaaGreatRexSP8
namespace Go.Rex.RexS
noncomputable def ms9 (f : Nat) : List Memo := findN [] f [(159, [{ m8 with keep := [(z 10758), (z 10757)] }])]
theorem m9_ok : m9.Ok Go.Proofs.Tryz.prog 83 :=
  ran_of (callM_ok follows_mixed Pl plans_ok ms9 (table_ok (rows_cons (memos_cons m8_ok memos_nil) rows_nil)) 1000000 300) (by kernel_rfl)
end Go.Rex.RexS
