/- Calls that are run once. Conditions: none. -/
import Derived.Test.YtkmkbmkaeopilaaGreatRexWD1
namespace Go.Rex.Sw
noncomputable def g11 (f : Nat) : List Memo := findN [] f []
theorem m11_ok : m11.Ok Go.Proofs.Tryz.prog 34 :=
  ran_ofB (mach_ok (gs := g11) (table_ok rows_nil)) (by kernel_rfl)
noncomputable def g15 (f : Nat) : List Memo := findN [] f []
theorem m15_ok : m15.Ok Go.Proofs.Tryz.prog 40 :=
  ran_ofB (mach_ok (gs := g15) (table_ok rows_nil)) (by kernel_rfl)
noncomputable def g14 (f : Nat) : List Memo := findN [] f []
theorem m14_ok : m14.Ok Go.Proofs.Tryz.prog 17 :=
  ran_ofB (mach_ok (gs := g14) (table_ok rows_nil)) (by kernel_rfl)
end Go.Rex.Sw
