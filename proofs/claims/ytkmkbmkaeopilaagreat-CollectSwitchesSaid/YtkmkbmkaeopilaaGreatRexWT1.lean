/- Calls that are run once. Conditions: none. -/
import Derived.Test.YtkmkbmkaeopilaaGreatRexWD1
namespace Go.Rex.Sw
noncomputable def g12 (f : Nat) : List Memo := findN [] f []
theorem m12_ok : m12.Ok Go.Proofs.Tryz.prog 35 :=
  ran_ofB (mach_ok (gs := g12) (table_ok rows_nil)) (by kernel_rfl)
end Go.Rex.Sw
