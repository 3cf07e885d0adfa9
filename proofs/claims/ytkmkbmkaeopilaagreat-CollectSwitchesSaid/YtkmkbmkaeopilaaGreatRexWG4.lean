/- Calls that are run once. Conditions: none. -/
import Derived.Test.YtkmkbmkaeopilaaGreatRexWD1
import Derived.Test.YtkmkbmkaeopilaaGreatRexWS2
import Derived.Test.YtkmkbmkaeopilaaGreatRexWS3
import Derived.Test.YtkmkbmkaeopilaaGreatRexWT2
import Derived.Test.YtkmkbmkaeopilaaGreatRexWT3
namespace Go.Rex.Sw
noncomputable def g59 (f : Nat) : List Memo := findN [] f []
theorem m59_ok : m59.Ok Go.Proofs.Tryz.prog 16 :=
  ran_ofB (mach_ok (gs := g59) (table_ok rows_nil)) (by kernel_rfl)
noncomputable def g60 (f : Nat) : List Memo := findN [] f []
theorem m60_ok : m60.Ok Go.Proofs.Tryz.prog 18 :=
  ran_ofB (mach_ok (gs := g60) (table_ok rows_nil)) (by kernel_rfl)
noncomputable def g61 (f : Nat) : List Memo := findN [] f []
theorem m61_ok : m61.Ok Go.Proofs.Tryz.prog 16 :=
  ran_ofB (mach_ok (gs := g61) (table_ok rows_nil)) (by kernel_rfl)
noncomputable def g62 (f : Nat) : List Memo := findN [] f []
theorem m62_ok : m62.Ok Go.Proofs.Tryz.prog 18 :=
  ran_ofB (mach_ok (gs := g62) (table_ok rows_nil)) (by kernel_rfl)
noncomputable def c01ff (f : Nat) : List Memo := findN [] f [(14, [{ m2 with keep := kP [k3] }, { m13 with keep := kP [k16] }]), (15, [{ m5 with keep := kP [k4, k5] }, { m16 with keep := kP [k17, k18] }]), (16, [{ m59 with keep := kP [k4, k6] }, { m61 with keep := kP [k17, k19] }]), (17, [{ m7 with keep := kP [k4, k5, k31] }, { m18 with keep := kP [k17, k18, k34] }]), (18, [{ m60 with keep := kP [k4, k6, k32] }, { m62 with keep := kP [k17, k19, k35] }]), (22, [{ m9 with keep := kP [k4, k5, k31, k33] }, { m20 with keep := kP [k17, k18, k34, k36] }])]
theorem c01ff_ok (u : Un) : ∃ call, CallOk Go.Proofs.Tryz.prog call ∧ caseRun call (t17 u false false 0 1) = .ok :=
  ⟨mach c01ff, mach_ok (table_ok (rows_cons (memos_cons m2_ok (memos_cons m13_ok memos_nil)) (rows_cons (memos_cons m5_ok (memos_cons m16_ok memos_nil)) (rows_cons (memos_cons m59_ok (memos_cons m61_ok memos_nil)) (rows_cons (memos_cons m7_ok (memos_cons m18_ok memos_nil)) (rows_cons (memos_cons m60_ok (memos_cons m62_ok memos_nil)) (rows_cons (memos_cons m9_ok (memos_cons m20_ok memos_nil)) rows_nil))))))), okB_ok (by kernel_rfl)⟩
noncomputable def c01ft (f : Nat) : List Memo := findN [] f [(14, [{ m2 with keep := kP [k3] }, { m13 with keep := kP [k16] }]), (15, [{ m5 with keep := kP [k4, k5] }, { m16 with keep := kP [k17, k18] }]), (16, [{ m59 with keep := kP [k4, k6] }, { m61 with keep := kP [k17, k19] }]), (17, [{ m7 with keep := kP [k4, k5, k31] }, { m18 with keep := kP [k17, k18, k34] }]), (18, [{ m60 with keep := kP [k4, k6, k32] }, { m62 with keep := kP [k17, k19, k35] }]), (22, [{ m9 with keep := kP [k4, k5, k31, k37] }, { m20 with keep := kP [k17, k18, k34, k38] }])]
theorem c01ft_ok (u : Un) : ∃ call, CallOk Go.Proofs.Tryz.prog call ∧ caseRun call (t17 u false true 0 1) = .ok :=
  ⟨mach c01ft, mach_ok (table_ok (rows_cons (memos_cons m2_ok (memos_cons m13_ok memos_nil)) (rows_cons (memos_cons m5_ok (memos_cons m16_ok memos_nil)) (rows_cons (memos_cons m59_ok (memos_cons m61_ok memos_nil)) (rows_cons (memos_cons m7_ok (memos_cons m18_ok memos_nil)) (rows_cons (memos_cons m60_ok (memos_cons m62_ok memos_nil)) (rows_cons (memos_cons m9_ok (memos_cons m20_ok memos_nil)) rows_nil))))))), okB_ok (by kernel_rfl)⟩
end Go.Rex.Sw
