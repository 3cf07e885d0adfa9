/- Calls that are run once. Conditions: none. -/
import Derived.Test.YtkmkbmkaeopilaaGreatRexWD1
import Derived.Test.YtkmkbmkaeopilaaGreatRexWS2
import Derived.Test.YtkmkbmkaeopilaaGreatRexWS3
import Derived.Test.YtkmkbmkaeopilaaGreatRexWT2
import Derived.Test.YtkmkbmkaeopilaaGreatRexWT3
namespace Go.Rex.Sw
noncomputable def g103 (f : Nat) : List Memo := findN [] f []
theorem m103_ok : m103.Ok Go.Proofs.Tryz.prog 16 :=
  ran_ofB (mach_ok (gs := g103) (table_ok rows_nil)) (by kernel_rfl)
noncomputable def g104 (f : Nat) : List Memo := findN [] f []
theorem m104_ok : m104.Ok Go.Proofs.Tryz.prog 18 :=
  ran_ofB (mach_ok (gs := g104) (table_ok rows_nil)) (by kernel_rfl)
noncomputable def g105 (f : Nat) : List Memo := findN [] f []
theorem m105_ok : m105.Ok Go.Proofs.Tryz.prog 16 :=
  ran_ofB (mach_ok (gs := g105) (table_ok rows_nil)) (by kernel_rfl)
noncomputable def g106 (f : Nat) : List Memo := findN [] f []
theorem m106_ok : m106.Ok Go.Proofs.Tryz.prog 18 :=
  ran_ofB (mach_ok (gs := g106) (table_ok rows_nil)) (by kernel_rfl)
noncomputable def c10tf (f : Nat) : List Memo := findN [] f [(14, [{ m2 with keep := kP [k3] }, { m13 with keep := kP [k16] }]), (15, [{ m5 with keep := kP [k4, k5] }, { m16 with keep := kP [k17, k18] }]), (16, [{ m103 with keep := kP [k4, k6] }, { m105 with keep := kP [k17, k19] }]), (17, [{ m7 with keep := kP [k4, k5, k49] }, { m18 with keep := kP [k17, k18, k51] }]), (18, [{ m104 with keep := kP [k4, k6, k50] }, { m106 with keep := kP [k17, k19, k52] }]), (22, [{ m9 with keep := kP [k4, k5, k49, k45] }, { m20 with keep := kP [k17, k18, k51, k48] }])]
theorem c10tf_ok (u : Un) : ∃ call, CallOk Go.Proofs.Tryz.prog call ∧ caseRun call (t17 u true false 1 0) = .ok :=
  ⟨mach c10tf, mach_ok (table_ok (rows_cons (memos_cons m2_ok (memos_cons m13_ok memos_nil)) (rows_cons (memos_cons m5_ok (memos_cons m16_ok memos_nil)) (rows_cons (memos_cons m103_ok (memos_cons m105_ok memos_nil)) (rows_cons (memos_cons m7_ok (memos_cons m18_ok memos_nil)) (rows_cons (memos_cons m104_ok (memos_cons m106_ok memos_nil)) (rows_cons (memos_cons m9_ok (memos_cons m20_ok memos_nil)) rows_nil))))))), okB_ok (by kernel_rfl)⟩
end Go.Rex.Sw
