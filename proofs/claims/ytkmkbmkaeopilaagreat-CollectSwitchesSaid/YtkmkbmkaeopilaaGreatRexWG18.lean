/- Calls that are run once. Conditions: none. -/
import Derived.Test.YtkmkbmkaeopilaaGreatRexWD1
import Derived.Test.YtkmkbmkaeopilaaGreatRexWS2
import Derived.Test.YtkmkbmkaeopilaaGreatRexWS3
import Derived.Test.YtkmkbmkaeopilaaGreatRexWT2
import Derived.Test.YtkmkbmkaeopilaaGreatRexWT3
namespace Go.Rex.Sw
noncomputable def g91 (f : Nat) : List Memo := findN [] f []
theorem m91_ok : m91.Ok Go.Proofs.Tryz.prog 16 :=
  ran_ofB (mach_ok (gs := g91) (table_ok rows_nil)) (by kernel_rfl)
noncomputable def g92 (f : Nat) : List Memo := findN [] f []
theorem m92_ok : m92.Ok Go.Proofs.Tryz.prog 18 :=
  ran_ofB (mach_ok (gs := g92) (table_ok rows_nil)) (by kernel_rfl)
noncomputable def g93 (f : Nat) : List Memo := findN [] f []
theorem m93_ok : m93.Ok Go.Proofs.Tryz.prog 16 :=
  ran_ofB (mach_ok (gs := g93) (table_ok rows_nil)) (by kernel_rfl)
noncomputable def g94 (f : Nat) : List Memo := findN [] f []
theorem m94_ok : m94.Ok Go.Proofs.Tryz.prog 18 :=
  ran_ofB (mach_ok (gs := g94) (table_ok rows_nil)) (by kernel_rfl)
noncomputable def c30ff (f : Nat) : List Memo := findN [] f [(14, [{ m2 with keep := kP [k3] }, { m13 with keep := kP [k16] }]), (15, [{ m5 with keep := kP [k4, k5] }, { m16 with keep := kP [k17, k18] }]), (16, [{ m91 with keep := kP [k4, k6] }, { m93 with keep := kP [k17, k19] }]), (17, [{ m7 with keep := kP [k4, k5, k95] }, { m18 with keep := kP [k17, k18, k98] }]), (18, [{ m92 with keep := kP [k4, k6, k96] }, { m94 with keep := kP [k17, k19, k99] }]), (22, [{ m9 with keep := kP [k4, k5, k95, k97] }, { m20 with keep := kP [k17, k18, k98, k100] }])]
theorem c30ff_ok (u : Un) : ∃ call, CallOk Go.Proofs.Tryz.prog call ∧ caseRun call (t17 u false false 3 0) = .ok :=
  ⟨mach c30ff, mach_ok (table_ok (rows_cons (memos_cons m2_ok (memos_cons m13_ok memos_nil)) (rows_cons (memos_cons m5_ok (memos_cons m16_ok memos_nil)) (rows_cons (memos_cons m91_ok (memos_cons m93_ok memos_nil)) (rows_cons (memos_cons m7_ok (memos_cons m18_ok memos_nil)) (rows_cons (memos_cons m92_ok (memos_cons m94_ok memos_nil)) (rows_cons (memos_cons m9_ok (memos_cons m20_ok memos_nil)) rows_nil))))))), okB_ok (by kernel_rfl)⟩
end Go.Rex.Sw
