/- Calls that are run once. Conditions: none. -/
import Derived.Test.YtkmkbmkaeopilaaGreatRexWD1
import Derived.Test.YtkmkbmkaeopilaaGreatRexWT0
import Derived.Test.YtkmkbmkaeopilaaGreatRexWT1
namespace Go.Rex.Sw
noncomputable def g20 (f : Nat) : List Memo := findN [] f []
theorem m20_ok : m20.Ok Go.Proofs.Tryz.prog 22 :=
  ran_ofB (mach_ok (gs := g20) (table_ok rows_nil)) (by kernel_rfl)
noncomputable def g18 (f : Nat) : List Memo := findN [] f []
theorem m18_ok : m18.Ok Go.Proofs.Tryz.prog 17 :=
  ran_ofB (mach_ok (gs := g18) (table_ok rows_nil)) (by kernel_rfl)
noncomputable def g13 (f : Nat) : List Memo := findN [] f [(34, [{ m11 with keep := kP [k10] }]), (35, [{ m12 with keep := kP [k11] }])]
theorem m13_ok : m13.Ok Go.Proofs.Tryz.prog 14 :=
  ran_ofB (mach_ok (gs := g13) (table_ok (rows_cons (memos_cons m11_ok memos_nil) (rows_cons (memos_cons m12_ok memos_nil) rows_nil)))) (by kernel_rfl)
end Go.Rex.Sw
