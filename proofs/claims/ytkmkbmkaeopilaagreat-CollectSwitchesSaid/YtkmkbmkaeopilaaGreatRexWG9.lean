/- Calls that are run once. Conditions: none. -/
import Derived.Test.YtkmkbmkaeopilaaGreatRexWD1
import Derived.Test.YtkmkbmkaeopilaaGreatRexWS2
import Derived.Test.YtkmkbmkaeopilaaGreatRexWS3
import Derived.Test.YtkmkbmkaeopilaaGreatRexWT2
import Derived.Test.YtkmkbmkaeopilaaGreatRexWT3
namespace Go.Rex.Sw
noncomputable def g29 (f : Nat) : List Memo := findN [] f []
theorem m29_ok : m29.Ok Go.Proofs.Tryz.prog 16 :=
  ran_ofB (mach_ok (gs := g29) (table_ok rows_nil)) (by kernel_rfl)
noncomputable def g30 (f : Nat) : List Memo := findN [] f []
theorem m30_ok : m30.Ok Go.Proofs.Tryz.prog 18 :=
  ran_ofB (mach_ok (gs := g30) (table_ok rows_nil)) (by kernel_rfl)
noncomputable def g31 (f : Nat) : List Memo := findN [] f []
theorem m31_ok : m31.Ok Go.Proofs.Tryz.prog 16 :=
  ran_ofB (mach_ok (gs := g31) (table_ok rows_nil)) (by kernel_rfl)
noncomputable def g32 (f : Nat) : List Memo := findN [] f []
theorem m32_ok : m32.Ok Go.Proofs.Tryz.prog 18 :=
  ran_ofB (mach_ok (gs := g32) (table_ok rows_nil)) (by kernel_rfl)
noncomputable def c10tt (f : Nat) : List Memo := findN [] f [(14, [{ m2 with keep := kP [k3] }, { m13 with keep := kP [k16] }]), (15, [{ m5 with keep := kP [k4, k5] }, { m16 with keep := kP [k17, k18] }]), (16, [{ m29 with keep := kP [k4, k6] }, { m31 with keep := kP [k17, k19] }]), (17, [{ m7 with keep := kP [k4, k5, k53] }, { m18 with keep := kP [k17, k18, k55] }]), (18, [{ m30 with keep := kP [k4, k6, k54] }, { m32 with keep := kP [k17, k19, k56] }]), (22, [{ m9 with keep := kP [k4, k5, k53, k45] }, { m20 with keep := kP [k17, k18, k55, k48] }])]
theorem c10tt_ok (u : Un) : ∃ call, CallOk Go.Proofs.Tryz.prog call ∧ caseRun call (t17 u true true 1 0) = .ok :=
  ⟨mach c10tt, mach_ok (table_ok (rows_cons (memos_cons m2_ok (memos_cons m13_ok memos_nil)) (rows_cons (memos_cons m5_ok (memos_cons m16_ok memos_nil)) (rows_cons (memos_cons m29_ok (memos_cons m31_ok memos_nil)) (rows_cons (memos_cons m7_ok (memos_cons m18_ok memos_nil)) (rows_cons (memos_cons m30_ok (memos_cons m32_ok memos_nil)) (rows_cons (memos_cons m9_ok (memos_cons m20_ok memos_nil)) rows_nil))))))), okB_ok (by kernel_rfl)⟩
end Go.Rex.Sw
