/- A call that is run once. Conditions: none. -/
import Derived.Test.YtdckaphpejgnjaaGreatRexCD

namespace Go.Rex.RexC
noncomputable def ms1 (f : Nat) : List Memo := findN [] f []
theorem m1_ok : m1.Ok Go.Proofs.Tryz.prog 160 :=
  ran_ofB (callM_ok follows_mixed Pl plans_ok ms1 (table_ok rows_nil) 1000000 300) (by kernel_rfl)
end Go.Rex.RexC
