/- Calls that are run once. Conditions: none. -/
import Derived.Test.YtkmkbmkaeopilaaGreatRexWD1
import Derived.Test.YtkmkbmkaeopilaaGreatRexWS2
import Derived.Test.YtkmkbmkaeopilaaGreatRexWS3
import Derived.Test.YtkmkbmkaeopilaaGreatRexWT2
import Derived.Test.YtkmkbmkaeopilaaGreatRexWT3
namespace Go.Rex.Sw
noncomputable def g63 (f : Nat) : List Memo := findN [] f []
theorem m63_ok : m63.Ok Go.Proofs.Tryz.prog 16 :=
  ran_ofB (mach_ok (gs := g63) (table_ok rows_nil)) (by kernel_rfl)
noncomputable def g64 (f : Nat) : List Memo := findN [] f []
theorem m64_ok : m64.Ok Go.Proofs.Tryz.prog 18 :=
  ran_ofB (mach_ok (gs := g64) (table_ok rows_nil)) (by kernel_rfl)
noncomputable def g65 (f : Nat) : List Memo := findN [] f []
theorem m65_ok : m65.Ok Go.Proofs.Tryz.prog 16 :=
  ran_ofB (mach_ok (gs := g65) (table_ok rows_nil)) (by kernel_rfl)
noncomputable def g66 (f : Nat) : List Memo := findN [] f []
theorem m66_ok : m66.Ok Go.Proofs.Tryz.prog 18 :=
  ran_ofB (mach_ok (gs := g66) (table_ok rows_nil)) (by kernel_rfl)
noncomputable def c10ft (f : Nat) : List Memo := findN [] f [(14, [{ m2 with keep := kP [k3] }, { m13 with keep := kP [k16] }]), (15, [{ m5 with keep := kP [k4, k5] }, { m16 with keep := kP [k17, k18] }]), (16, [{ m63 with keep := kP [k4, k6] }, { m65 with keep := kP [k17, k19] }]), (17, [{ m7 with keep := kP [k4, k5, k49] }, { m18 with keep := kP [k17, k18, k51] }]), (18, [{ m64 with keep := kP [k4, k6, k50] }, { m66 with keep := kP [k17, k19, k52] }]), (22, [{ m9 with keep := kP [k4, k5, k49, k45] }, { m20 with keep := kP [k17, k18, k51, k48] }])]
theorem c10ft_ok (u : Un) : ∃ call, CallOk Go.Proofs.Tryz.prog call ∧ caseRun call (t17 u false true 1 0) = .ok :=
  ⟨mach c10ft, mach_ok (table_ok (rows_cons (memos_cons m2_ok (memos_cons m13_ok memos_nil)) (rows_cons (memos_cons m5_ok (memos_cons m16_ok memos_nil)) (rows_cons (memos_cons m63_ok (memos_cons m65_ok memos_nil)) (rows_cons (memos_cons m7_ok (memos_cons m18_ok memos_nil)) (rows_cons (memos_cons m64_ok (memos_cons m66_ok memos_nil)) (rows_cons (memos_cons m9_ok (memos_cons m20_ok memos_nil)) rows_nil))))))), okB_ok (by kernel_rfl)⟩
end Go.Rex.Sw
