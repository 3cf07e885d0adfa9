/- Calls that are run once. Conditions: none. -/
import Derived.Test.YtkmkbmkaeopilaaGreatRexWD1
import Derived.Test.YtkmkbmkaeopilaaGreatRexWS2
import Derived.Test.YtkmkbmkaeopilaaGreatRexWS3
import Derived.Test.YtkmkbmkaeopilaaGreatRexWT2
import Derived.Test.YtkmkbmkaeopilaaGreatRexWT3
namespace Go.Rex.Sw
noncomputable def g79 (f : Nat) : List Memo := findN [] f []
theorem m79_ok : m79.Ok Go.Proofs.Tryz.prog 16 :=
  ran_ofB (mach_ok (gs := g79) (table_ok rows_nil)) (by kernel_rfl)
noncomputable def g80 (f : Nat) : List Memo := findN [] f []
theorem m80_ok : m80.Ok Go.Proofs.Tryz.prog 18 :=
  ran_ofB (mach_ok (gs := g80) (table_ok rows_nil)) (by kernel_rfl)
noncomputable def g81 (f : Nat) : List Memo := findN [] f []
theorem m81_ok : m81.Ok Go.Proofs.Tryz.prog 16 :=
  ran_ofB (mach_ok (gs := g81) (table_ok rows_nil)) (by kernel_rfl)
noncomputable def g82 (f : Nat) : List Memo := findN [] f []
theorem m82_ok : m82.Ok Go.Proofs.Tryz.prog 18 :=
  ran_ofB (mach_ok (gs := g82) (table_ok rows_nil)) (by kernel_rfl)
noncomputable def c00tf (f : Nat) : List Memo := findN [] f [(14, [{ m2 with keep := kP [k3] }, { m13 with keep := kP [k16] }]), (15, [{ m5 with keep := kP [k4, k5] }, { m16 with keep := kP [k17, k18] }]), (16, [{ m79 with keep := kP [k4, k6] }, { m81 with keep := kP [k17, k19] }]), (17, [{ m7 with keep := kP [k4, k5, k23] }, { m18 with keep := kP [k17, k18, k25] }]), (18, [{ m80 with keep := kP [k4, k6, k24] }, { m82 with keep := kP [k17, k19, k26] }]), (22, [{ m9 with keep := kP [k4, k5, k23, k15] }, { m20 with keep := kP [k17, k18, k25, k22] }])]
theorem c00tf_ok (u : Un) : ∃ call, CallOk Go.Proofs.Tryz.prog call ∧ caseRun call (t17 u true false 0 0) = .ok :=
  ⟨mach c00tf, mach_ok (table_ok (rows_cons (memos_cons m2_ok (memos_cons m13_ok memos_nil)) (rows_cons (memos_cons m5_ok (memos_cons m16_ok memos_nil)) (rows_cons (memos_cons m79_ok (memos_cons m81_ok memos_nil)) (rows_cons (memos_cons m7_ok (memos_cons m18_ok memos_nil)) (rows_cons (memos_cons m80_ok (memos_cons m82_ok memos_nil)) (rows_cons (memos_cons m9_ok (memos_cons m20_ok memos_nil)) rows_nil))))))), okB_ok (by kernel_rfl)⟩
end Go.Rex.Sw
