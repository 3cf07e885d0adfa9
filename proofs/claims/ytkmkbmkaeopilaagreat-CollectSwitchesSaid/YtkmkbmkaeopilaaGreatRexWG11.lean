/- Calls that are run once. Conditions: none. -/
import Derived.Test.YtkmkbmkaeopilaaGreatRexWD1
import Derived.Test.YtkmkbmkaeopilaaGreatRexWS2
import Derived.Test.YtkmkbmkaeopilaaGreatRexWS3
import Derived.Test.YtkmkbmkaeopilaaGreatRexWT2
import Derived.Test.YtkmkbmkaeopilaaGreatRexWT3
namespace Go.Rex.Sw
noncomputable def g47 (f : Nat) : List Memo := findN [] f []
theorem m47_ok : m47.Ok Go.Proofs.Tryz.prog 16 :=
  ran_ofB (mach_ok (gs := g47) (table_ok rows_nil)) (by kernel_rfl)
noncomputable def g48 (f : Nat) : List Memo := findN [] f []
theorem m48_ok : m48.Ok Go.Proofs.Tryz.prog 18 :=
  ran_ofB (mach_ok (gs := g48) (table_ok rows_nil)) (by kernel_rfl)
noncomputable def g49 (f : Nat) : List Memo := findN [] f []
theorem m49_ok : m49.Ok Go.Proofs.Tryz.prog 16 :=
  ran_ofB (mach_ok (gs := g49) (table_ok rows_nil)) (by kernel_rfl)
noncomputable def g50 (f : Nat) : List Memo := findN [] f []
theorem m50_ok : m50.Ok Go.Proofs.Tryz.prog 18 :=
  ran_ofB (mach_ok (gs := g50) (table_ok rows_nil)) (by kernel_rfl)
noncomputable def c11tf (f : Nat) : List Memo := findN [] f [(14, [{ m2 with keep := kP [k3] }, { m13 with keep := kP [k16] }]), (15, [{ m5 with keep := kP [k4, k5] }, { m16 with keep := kP [k17, k18] }]), (16, [{ m47 with keep := kP [k4, k6] }, { m49 with keep := kP [k17, k19] }]), (17, [{ m7 with keep := kP [k4, k5, k65] }, { m18 with keep := kP [k17, k18, k67] }]), (18, [{ m48 with keep := kP [k4, k6, k66] }, { m50 with keep := kP [k17, k19, k68] }]), (22, [{ m9 with keep := kP [k4, k5, k65, k59] }, { m20 with keep := kP [k17, k18, k67, k62] }])]
theorem c11tf_ok (u : Un) : ∃ call, CallOk Go.Proofs.Tryz.prog call ∧ caseRun call (t17 u true false 1 1) = .ok :=
  ⟨mach c11tf, mach_ok (table_ok (rows_cons (memos_cons m2_ok (memos_cons m13_ok memos_nil)) (rows_cons (memos_cons m5_ok (memos_cons m16_ok memos_nil)) (rows_cons (memos_cons m47_ok (memos_cons m49_ok memos_nil)) (rows_cons (memos_cons m7_ok (memos_cons m18_ok memos_nil)) (rows_cons (memos_cons m48_ok (memos_cons m50_ok memos_nil)) (rows_cons (memos_cons m9_ok (memos_cons m20_ok memos_nil)) rows_nil))))))), okB_ok (by kernel_rfl)⟩
noncomputable def c11tt (f : Nat) : List Memo := findN [] f [(14, [{ m2 with keep := kP [k3] }, { m13 with keep := kP [k16] }]), (15, [{ m5 with keep := kP [k4, k5] }, { m16 with keep := kP [k17, k18] }]), (16, [{ m47 with keep := kP [k4, k6] }, { m49 with keep := kP [k17, k19] }]), (17, [{ m7 with keep := kP [k4, k5, k65] }, { m18 with keep := kP [k17, k18, k67] }]), (18, [{ m48 with keep := kP [k4, k6, k66] }, { m50 with keep := kP [k17, k19, k68] }]), (22, [{ m9 with keep := kP [k4, k5, k65, k63] }, { m20 with keep := kP [k17, k18, k67, k64] }])]
theorem c11tt_ok (u : Un) : ∃ call, CallOk Go.Proofs.Tryz.prog call ∧ caseRun call (t17 u true true 1 1) = .ok :=
  ⟨mach c11tt, mach_ok (table_ok (rows_cons (memos_cons m2_ok (memos_cons m13_ok memos_nil)) (rows_cons (memos_cons m5_ok (memos_cons m16_ok memos_nil)) (rows_cons (memos_cons m47_ok (memos_cons m49_ok memos_nil)) (rows_cons (memos_cons m7_ok (memos_cons m18_ok memos_nil)) (rows_cons (memos_cons m48_ok (memos_cons m50_ok memos_nil)) (rows_cons (memos_cons m9_ok (memos_cons m20_ok memos_nil)) rows_nil))))))), okB_ok (by kernel_rfl)⟩
end Go.Rex.Sw
