/- Calls that are run once. Conditions: none. -/
import Derived.Test.YtkmkbmkaeopilaaGreatRexWD1
namespace Go.Rex.Sw
noncomputable def g0 (f : Nat) : List Memo := findN [] f []
theorem m0_ok : m0.Ok Go.Proofs.Tryz.prog 34 :=
  ran_ofB (mach_ok (gs := g0) (table_ok rows_nil)) (by kernel_rfl)
noncomputable def g4 (f : Nat) : List Memo := findN [] f []
theorem m4_ok : m4.Ok Go.Proofs.Tryz.prog 40 :=
  ran_ofB (mach_ok (gs := g4) (table_ok rows_nil)) (by kernel_rfl)
noncomputable def g3 (f : Nat) : List Memo := findN [] f []
theorem m3_ok : m3.Ok Go.Proofs.Tryz.prog 17 :=
  ran_ofB (mach_ok (gs := g3) (table_ok rows_nil)) (by kernel_rfl)
end Go.Rex.Sw
