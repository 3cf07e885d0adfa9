/- Calls that are run once. Conditions: none. -/
import Derived.Test.YtkmkbmkaeopilaaGreatRexWD1
import Derived.Test.YtkmkbmkaeopilaaGreatRexWS2
import Derived.Test.YtkmkbmkaeopilaaGreatRexWS3
import Derived.Test.YtkmkbmkaeopilaaGreatRexWT2
import Derived.Test.YtkmkbmkaeopilaaGreatRexWT3
namespace Go.Rex.Sw
noncomputable def g33 (f : Nat) : List Memo := findN [] f []
theorem m33_ok : m33.Ok Go.Proofs.Tryz.prog 16 :=
  ran_ofB (mach_ok (gs := g33) (table_ok rows_nil)) (by kernel_rfl)
noncomputable def g34 (f : Nat) : List Memo := findN [] f []
theorem m34_ok : m34.Ok Go.Proofs.Tryz.prog 18 :=
  ran_ofB (mach_ok (gs := g34) (table_ok rows_nil)) (by kernel_rfl)
noncomputable def g35 (f : Nat) : List Memo := findN [] f []
theorem m35_ok : m35.Ok Go.Proofs.Tryz.prog 16 :=
  ran_ofB (mach_ok (gs := g35) (table_ok rows_nil)) (by kernel_rfl)
noncomputable def g36 (f : Nat) : List Memo := findN [] f []
theorem m36_ok : m36.Ok Go.Proofs.Tryz.prog 18 :=
  ran_ofB (mach_ok (gs := g36) (table_ok rows_nil)) (by kernel_rfl)
noncomputable def c20tf (f : Nat) : List Memo := findN [] f [(14, [{ m2 with keep := kP [k3] }, { m13 with keep := kP [k16] }]), (15, [{ m5 with keep := kP [k4, k5] }, { m16 with keep := kP [k17, k18] }]), (16, [{ m33 with keep := kP [k4, k6] }, { m35 with keep := kP [k17, k19] }]), (17, [{ m7 with keep := kP [k4, k5, k75] }, { m18 with keep := kP [k17, k18, k77] }]), (18, [{ m34 with keep := kP [k4, k6, k76] }, { m36 with keep := kP [k17, k19, k78] }]), (22, [{ m9 with keep := kP [k4, k5, k75, k71] }, { m20 with keep := kP [k17, k18, k77, k74] }])]
theorem c20tf_ok (u : Un) : ∃ call, CallOk Go.Proofs.Tryz.prog call ∧ caseRun call (t17 u true false 2 0) = .ok :=
  ⟨mach c20tf, mach_ok (table_ok (rows_cons (memos_cons m2_ok (memos_cons m13_ok memos_nil)) (rows_cons (memos_cons m5_ok (memos_cons m16_ok memos_nil)) (rows_cons (memos_cons m33_ok (memos_cons m35_ok memos_nil)) (rows_cons (memos_cons m7_ok (memos_cons m18_ok memos_nil)) (rows_cons (memos_cons m34_ok (memos_cons m36_ok memos_nil)) (rows_cons (memos_cons m9_ok (memos_cons m20_ok memos_nil)) rows_nil))))))), okB_ok (by kernel_rfl)⟩
end Go.Rex.Sw
