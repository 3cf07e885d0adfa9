/- Calls that are run once. Conditions: none. -/
import Derived.Test.YtkmkbmkaeopilaaGreatRexWD1
import Derived.Test.YtkmkbmkaeopilaaGreatRexWS2
import Derived.Test.YtkmkbmkaeopilaaGreatRexWS3
import Derived.Test.YtkmkbmkaeopilaaGreatRexWT2
import Derived.Test.YtkmkbmkaeopilaaGreatRexWT3
namespace Go.Rex.Sw
noncomputable def g99 (f : Nat) : List Memo := findN [] f []
theorem m99_ok : m99.Ok Go.Proofs.Tryz.prog 16 :=
  ran_ofB (mach_ok (gs := g99) (table_ok rows_nil)) (by kernel_rfl)
noncomputable def g100 (f : Nat) : List Memo := findN [] f []
theorem m100_ok : m100.Ok Go.Proofs.Tryz.prog 18 :=
  ran_ofB (mach_ok (gs := g100) (table_ok rows_nil)) (by kernel_rfl)
noncomputable def g101 (f : Nat) : List Memo := findN [] f []
theorem m101_ok : m101.Ok Go.Proofs.Tryz.prog 16 :=
  ran_ofB (mach_ok (gs := g101) (table_ok rows_nil)) (by kernel_rfl)
noncomputable def g102 (f : Nat) : List Memo := findN [] f []
theorem m102_ok : m102.Ok Go.Proofs.Tryz.prog 18 :=
  ran_ofB (mach_ok (gs := g102) (table_ok rows_nil)) (by kernel_rfl)
noncomputable def c00tt (f : Nat) : List Memo := findN [] f [(14, [{ m2 with keep := kP [k3] }, { m13 with keep := kP [k16] }]), (15, [{ m5 with keep := kP [k4, k5] }, { m16 with keep := kP [k17, k18] }]), (16, [{ m99 with keep := kP [k4, k6] }, { m101 with keep := kP [k17, k19] }]), (17, [{ m7 with keep := kP [k4, k5, k27] }, { m18 with keep := kP [k17, k18, k29] }]), (18, [{ m100 with keep := kP [k4, k6, k28] }, { m102 with keep := kP [k17, k19, k30] }]), (22, [{ m9 with keep := kP [k4, k5, k27, k15] }, { m20 with keep := kP [k17, k18, k29, k22] }])]
theorem c00tt_ok (u : Un) : ∃ call, CallOk Go.Proofs.Tryz.prog call ∧ caseRun call (t17 u true true 0 0) = .ok :=
  ⟨mach c00tt, mach_ok (table_ok (rows_cons (memos_cons m2_ok (memos_cons m13_ok memos_nil)) (rows_cons (memos_cons m5_ok (memos_cons m16_ok memos_nil)) (rows_cons (memos_cons m99_ok (memos_cons m101_ok memos_nil)) (rows_cons (memos_cons m7_ok (memos_cons m18_ok memos_nil)) (rows_cons (memos_cons m100_ok (memos_cons m102_ok memos_nil)) (rows_cons (memos_cons m9_ok (memos_cons m20_ok memos_nil)) rows_nil))))))), okB_ok (by kernel_rfl)⟩
end Go.Rex.Sw
