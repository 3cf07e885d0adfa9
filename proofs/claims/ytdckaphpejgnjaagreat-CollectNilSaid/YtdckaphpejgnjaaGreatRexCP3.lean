/- A call that is run once. Conditions: none. -/
import Derived.Test.YtdckaphpejgnjaaGreatRexCD

namespace Go.Rex.RexC
noncomputable def ms3 (f : Nat) : List Memo := findN [] f []
theorem m3_ok : m3.Ok Go.Proofs.Tryz.prog 84 :=
  ran_ofB (callM_ok follows_mixed Pl plans_ok ms3 (table_ok rows_nil) 1000000 300) (by kernel_rfl)
end Go.Rex.RexC
