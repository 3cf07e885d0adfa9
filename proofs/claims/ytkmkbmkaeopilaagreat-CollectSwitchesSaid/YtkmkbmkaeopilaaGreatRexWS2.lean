/- Calls that are run once. Conditions: none. -/
import Derived.Test.YtkmkbmkaeopilaaGreatRexWD1
import Derived.Test.YtkmkbmkaeopilaaGreatRexWS0
import Derived.Test.YtkmkbmkaeopilaaGreatRexWS1
namespace Go.Rex.Sw
noncomputable def g9 (f : Nat) : List Memo := findN [] f []
theorem m9_ok : m9.Ok Go.Proofs.Tryz.prog 22 :=
  ran_ofB (mach_ok (gs := g9) (table_ok rows_nil)) (by kernel_rfl)
noncomputable def g7 (f : Nat) : List Memo := findN [] f []
theorem m7_ok : m7.Ok Go.Proofs.Tryz.prog 17 :=
  ran_ofB (mach_ok (gs := g7) (table_ok rows_nil)) (by kernel_rfl)
noncomputable def g6 (f : Nat) : List Memo := findN [] f []
theorem m6_ok : m6.Ok Go.Proofs.Tryz.prog 16 :=
  ran_ofB (mach_ok (gs := g6) (table_ok rows_nil)) (by kernel_rfl)
noncomputable def g8 (f : Nat) : List Memo := findN [] f []
theorem m8_ok : m8.Ok Go.Proofs.Tryz.prog 18 :=
  ran_ofB (mach_ok (gs := g8) (table_ok rows_nil)) (by kernel_rfl)
noncomputable def g2 (f : Nat) : List Memo := findN [] f [(34, [{ m0 with keep := kP [k0] }]), (35, [{ m1 with keep := kP [k1] }])]
theorem m2_ok : m2.Ok Go.Proofs.Tryz.prog 14 :=
  ran_ofB (mach_ok (gs := g2) (table_ok (rows_cons (memos_cons m0_ok memos_nil) (rows_cons (memos_cons m1_ok memos_nil) rows_nil)))) (by kernel_rfl)
end Go.Rex.Sw
