/- Calls that are run once. Conditions: none. -/
import Derived.Test.YtkmkbmkaeopilaaGreatRexWD1
import Derived.Test.YtkmkbmkaeopilaaGreatRexWS2
import Derived.Test.YtkmkbmkaeopilaaGreatRexWS3
import Derived.Test.YtkmkbmkaeopilaaGreatRexWT2
import Derived.Test.YtkmkbmkaeopilaaGreatRexWT3
namespace Go.Rex.Sw
noncomputable def g21 (f : Nat) : List Memo := findN [] f []
theorem m21_ok : m21.Ok Go.Proofs.Tryz.prog 16 :=
  ran_ofB (mach_ok (gs := g21) (table_ok rows_nil)) (by kernel_rfl)
noncomputable def g22 (f : Nat) : List Memo := findN [] f []
theorem m22_ok : m22.Ok Go.Proofs.Tryz.prog 18 :=
  ran_ofB (mach_ok (gs := g22) (table_ok rows_nil)) (by kernel_rfl)
noncomputable def g23 (f : Nat) : List Memo := findN [] f []
theorem m23_ok : m23.Ok Go.Proofs.Tryz.prog 16 :=
  ran_ofB (mach_ok (gs := g23) (table_ok rows_nil)) (by kernel_rfl)
noncomputable def g24 (f : Nat) : List Memo := findN [] f []
theorem m24_ok : m24.Ok Go.Proofs.Tryz.prog 18 :=
  ran_ofB (mach_ok (gs := g24) (table_ok rows_nil)) (by kernel_rfl)
noncomputable def c00ff (f : Nat) : List Memo := findN [] f [(14, [{ m2 with keep := kP [k3] }, { m13 with keep := kP [k16] }]), (15, [{ m5 with keep := kP [k4, k5] }, { m16 with keep := kP [k17, k18] }]), (16, [{ m21 with keep := kP [k4, k6] }, { m23 with keep := kP [k17, k19] }]), (17, [{ m7 with keep := kP [k4, k5, k13] }, { m18 with keep := kP [k17, k18, k20] }]), (18, [{ m22 with keep := kP [k4, k6, k14] }, { m24 with keep := kP [k17, k19, k21] }]), (22, [{ m9 with keep := kP [k4, k5, k13, k15] }, { m20 with keep := kP [k17, k18, k20, k22] }])]
theorem c00ff_ok (u : Un) : ∃ call, CallOk Go.Proofs.Tryz.prog call ∧ caseRun call (t17 u false false 0 0) = .ok :=
  ⟨mach c00ff, mach_ok (table_ok (rows_cons (memos_cons m2_ok (memos_cons m13_ok memos_nil)) (rows_cons (memos_cons m5_ok (memos_cons m16_ok memos_nil)) (rows_cons (memos_cons m21_ok (memos_cons m23_ok memos_nil)) (rows_cons (memos_cons m7_ok (memos_cons m18_ok memos_nil)) (rows_cons (memos_cons m22_ok (memos_cons m24_ok memos_nil)) (rows_cons (memos_cons m9_ok (memos_cons m20_ok memos_nil)) rows_nil))))))), okB_ok (by kernel_rfl)⟩
end Go.Rex.Sw
