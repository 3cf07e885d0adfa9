/- Calls that are run once. Conditions: none. -/
import Derived.Test.YtkmkbmkaeopilaaGreatRexWD1
import Derived.Test.YtkmkbmkaeopilaaGreatRexWS2
import Derived.Test.YtkmkbmkaeopilaaGreatRexWS3
import Derived.Test.YtkmkbmkaeopilaaGreatRexWT2
import Derived.Test.YtkmkbmkaeopilaaGreatRexWT3
namespace Go.Rex.Sw
noncomputable def g25 (f : Nat) : List Memo := findN [] f []
theorem m25_ok : m25.Ok Go.Proofs.Tryz.prog 16 :=
  ran_ofB (mach_ok (gs := g25) (table_ok rows_nil)) (by kernel_rfl)
noncomputable def g26 (f : Nat) : List Memo := findN [] f []
theorem m26_ok : m26.Ok Go.Proofs.Tryz.prog 18 :=
  ran_ofB (mach_ok (gs := g26) (table_ok rows_nil)) (by kernel_rfl)
noncomputable def g27 (f : Nat) : List Memo := findN [] f []
theorem m27_ok : m27.Ok Go.Proofs.Tryz.prog 16 :=
  ran_ofB (mach_ok (gs := g27) (table_ok rows_nil)) (by kernel_rfl)
noncomputable def g28 (f : Nat) : List Memo := findN [] f []
theorem m28_ok : m28.Ok Go.Proofs.Tryz.prog 18 :=
  ran_ofB (mach_ok (gs := g28) (table_ok rows_nil)) (by kernel_rfl)
noncomputable def c01tf (f : Nat) : List Memo := findN [] f [(14, [{ m2 with keep := kP [k3] }, { m13 with keep := kP [k16] }]), (15, [{ m5 with keep := kP [k4, k5] }, { m16 with keep := kP [k17, k18] }]), (16, [{ m25 with keep := kP [k4, k6] }, { m27 with keep := kP [k17, k19] }]), (17, [{ m7 with keep := kP [k4, k5, k39] }, { m18 with keep := kP [k17, k18, k41] }]), (18, [{ m26 with keep := kP [k4, k6, k40] }, { m28 with keep := kP [k17, k19, k42] }]), (22, [{ m9 with keep := kP [k4, k5, k39, k33] }, { m20 with keep := kP [k17, k18, k41, k36] }])]
theorem c01tf_ok (u : Un) : ∃ call, CallOk Go.Proofs.Tryz.prog call ∧ caseRun call (t17 u true false 0 1) = .ok :=
  ⟨mach c01tf, mach_ok (table_ok (rows_cons (memos_cons m2_ok (memos_cons m13_ok memos_nil)) (rows_cons (memos_cons m5_ok (memos_cons m16_ok memos_nil)) (rows_cons (memos_cons m25_ok (memos_cons m27_ok memos_nil)) (rows_cons (memos_cons m7_ok (memos_cons m18_ok memos_nil)) (rows_cons (memos_cons m26_ok (memos_cons m28_ok memos_nil)) (rows_cons (memos_cons m9_ok (memos_cons m20_ok memos_nil)) rows_nil))))))), okB_ok (by kernel_rfl)⟩
noncomputable def c01tt (f : Nat) : List Memo := findN [] f [(14, [{ m2 with keep := kP [k3] }, { m13 with keep := kP [k16] }]), (15, [{ m5 with keep := kP [k4, k5] }, { m16 with keep := kP [k17, k18] }]), (16, [{ m25 with keep := kP [k4, k6] }, { m27 with keep := kP [k17, k19] }]), (17, [{ m7 with keep := kP [k4, k5, k39] }, { m18 with keep := kP [k17, k18, k41] }]), (18, [{ m26 with keep := kP [k4, k6, k40] }, { m28 with keep := kP [k17, k19, k42] }]), (22, [{ m9 with keep := kP [k4, k5, k39, k37] }, { m20 with keep := kP [k17, k18, k41, k38] }])]
theorem c01tt_ok (u : Un) : ∃ call, CallOk Go.Proofs.Tryz.prog call ∧ caseRun call (t17 u true true 0 1) = .ok :=
  ⟨mach c01tt, mach_ok (table_ok (rows_cons (memos_cons m2_ok (memos_cons m13_ok memos_nil)) (rows_cons (memos_cons m5_ok (memos_cons m16_ok memos_nil)) (rows_cons (memos_cons m25_ok (memos_cons m27_ok memos_nil)) (rows_cons (memos_cons m7_ok (memos_cons m18_ok memos_nil)) (rows_cons (memos_cons m26_ok (memos_cons m28_ok memos_nil)) (rows_cons (memos_cons m9_ok (memos_cons m20_ok memos_nil)) rows_nil))))))), okB_ok (by kernel_rfl)⟩
end Go.Rex.Sw
