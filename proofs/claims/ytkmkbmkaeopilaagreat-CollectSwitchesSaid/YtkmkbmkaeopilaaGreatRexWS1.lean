/- Calls that are run once. Conditions: none. -/
import Derived.Test.YtkmkbmkaeopilaaGreatRexWD1
namespace Go.Rex.Sw
noncomputable def g1 (f : Nat) : List Memo := findN [] f []
theorem m1_ok : m1.Ok Go.Proofs.Tryz.prog 35 :=
  ran_ofB (mach_ok (gs := g1) (table_ok rows_nil)) (by kernel_rfl)
end Go.Rex.Sw
