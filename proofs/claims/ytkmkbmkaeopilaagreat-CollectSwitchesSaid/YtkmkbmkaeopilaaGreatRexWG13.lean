/- Calls that are run once. Conditions: none. -/
import Derived.Test.YtkmkbmkaeopilaaGreatRexWD1
import Derived.Test.YtkmkbmkaeopilaaGreatRexWS2
import Derived.Test.YtkmkbmkaeopilaaGreatRexWS3
import Derived.Test.YtkmkbmkaeopilaaGreatRexWT2
import Derived.Test.YtkmkbmkaeopilaaGreatRexWT3
namespace Go.Rex.Sw
noncomputable def g87 (f : Nat) : List Memo := findN [] f []
theorem m87_ok : m87.Ok Go.Proofs.Tryz.prog 16 :=
  ran_ofB (mach_ok (gs := g87) (table_ok rows_nil)) (by kernel_rfl)
noncomputable def g88 (f : Nat) : List Memo := findN [] f []
theorem m88_ok : m88.Ok Go.Proofs.Tryz.prog 18 :=
  ran_ofB (mach_ok (gs := g88) (table_ok rows_nil)) (by kernel_rfl)
noncomputable def g89 (f : Nat) : List Memo := findN [] f []
theorem m89_ok : m89.Ok Go.Proofs.Tryz.prog 16 :=
  ran_ofB (mach_ok (gs := g89) (table_ok rows_nil)) (by kernel_rfl)
noncomputable def g90 (f : Nat) : List Memo := findN [] f []
theorem m90_ok : m90.Ok Go.Proofs.Tryz.prog 18 :=
  ran_ofB (mach_ok (gs := g90) (table_ok rows_nil)) (by kernel_rfl)
noncomputable def c20ft (f : Nat) : List Memo := findN [] f [(14, [{ m2 with keep := kP [k3] }, { m13 with keep := kP [k16] }]), (15, [{ m5 with keep := kP [k4, k5] }, { m16 with keep := kP [k17, k18] }]), (16, [{ m87 with keep := kP [k4, k6] }, { m89 with keep := kP [k17, k19] }]), (17, [{ m7 with keep := kP [k4, k5, k75] }, { m18 with keep := kP [k17, k18, k77] }]), (18, [{ m88 with keep := kP [k4, k6, k76] }, { m90 with keep := kP [k17, k19, k78] }]), (22, [{ m9 with keep := kP [k4, k5, k75, k71] }, { m20 with keep := kP [k17, k18, k77, k74] }])]
theorem c20ft_ok (u : Un) : ∃ call, CallOk Go.Proofs.Tryz.prog call ∧ caseRun call (t17 u false true 2 0) = .ok :=
  ⟨mach c20ft, mach_ok (table_ok (rows_cons (memos_cons m2_ok (memos_cons m13_ok memos_nil)) (rows_cons (memos_cons m5_ok (memos_cons m16_ok memos_nil)) (rows_cons (memos_cons m87_ok (memos_cons m89_ok memos_nil)) (rows_cons (memos_cons m7_ok (memos_cons m18_ok memos_nil)) (rows_cons (memos_cons m88_ok (memos_cons m90_ok memos_nil)) (rows_cons (memos_cons m9_ok (memos_cons m20_ok memos_nil)) rows_nil))))))), okB_ok (by kernel_rfl)⟩
end Go.Rex.Sw
