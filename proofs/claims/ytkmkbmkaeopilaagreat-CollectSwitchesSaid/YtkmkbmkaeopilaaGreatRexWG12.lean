/- Calls that are run once. Conditions: none. -/
import Derived.Test.YtkmkbmkaeopilaaGreatRexWD1
import Derived.Test.YtkmkbmkaeopilaaGreatRexWS2
import Derived.Test.YtkmkbmkaeopilaaGreatRexWS3
import Derived.Test.YtkmkbmkaeopilaaGreatRexWT2
import Derived.Test.YtkmkbmkaeopilaaGreatRexWT3
namespace Go.Rex.Sw
noncomputable def g67 (f : Nat) : List Memo := findN [] f []
theorem m67_ok : m67.Ok Go.Proofs.Tryz.prog 16 :=
  ran_ofB (mach_ok (gs := g67) (table_ok rows_nil)) (by kernel_rfl)
noncomputable def g68 (f : Nat) : List Memo := findN [] f []
theorem m68_ok : m68.Ok Go.Proofs.Tryz.prog 18 :=
  ran_ofB (mach_ok (gs := g68) (table_ok rows_nil)) (by kernel_rfl)
noncomputable def g69 (f : Nat) : List Memo := findN [] f []
theorem m69_ok : m69.Ok Go.Proofs.Tryz.prog 16 :=
  ran_ofB (mach_ok (gs := g69) (table_ok rows_nil)) (by kernel_rfl)
noncomputable def g70 (f : Nat) : List Memo := findN [] f []
theorem m70_ok : m70.Ok Go.Proofs.Tryz.prog 18 :=
  ran_ofB (mach_ok (gs := g70) (table_ok rows_nil)) (by kernel_rfl)
noncomputable def c20ff (f : Nat) : List Memo := findN [] f [(14, [{ m2 with keep := kP [k3] }, { m13 with keep := kP [k16] }]), (15, [{ m5 with keep := kP [k4, k5] }, { m16 with keep := kP [k17, k18] }]), (16, [{ m67 with keep := kP [k4, k6] }, { m69 with keep := kP [k17, k19] }]), (17, [{ m7 with keep := kP [k4, k5, k69] }, { m18 with keep := kP [k17, k18, k72] }]), (18, [{ m68 with keep := kP [k4, k6, k70] }, { m70 with keep := kP [k17, k19, k73] }]), (22, [{ m9 with keep := kP [k4, k5, k69, k71] }, { m20 with keep := kP [k17, k18, k72, k74] }])]
theorem c20ff_ok (u : Un) : ∃ call, CallOk Go.Proofs.Tryz.prog call ∧ caseRun call (t17 u false false 2 0) = .ok :=
  ⟨mach c20ff, mach_ok (table_ok (rows_cons (memos_cons m2_ok (memos_cons m13_ok memos_nil)) (rows_cons (memos_cons m5_ok (memos_cons m16_ok memos_nil)) (rows_cons (memos_cons m67_ok (memos_cons m69_ok memos_nil)) (rows_cons (memos_cons m7_ok (memos_cons m18_ok memos_nil)) (rows_cons (memos_cons m68_ok (memos_cons m70_ok memos_nil)) (rows_cons (memos_cons m9_ok (memos_cons m20_ok memos_nil)) rows_nil))))))), okB_ok (by kernel_rfl)⟩
end Go.Rex.Sw
