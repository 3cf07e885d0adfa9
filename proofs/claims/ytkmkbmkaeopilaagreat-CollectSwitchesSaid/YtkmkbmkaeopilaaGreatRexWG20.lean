/- Calls that are run once. Conditions: none. -/
import Derived.Test.YtkmkbmkaeopilaaGreatRexWD1
import Derived.Test.YtkmkbmkaeopilaaGreatRexWS2
import Derived.Test.YtkmkbmkaeopilaaGreatRexWS3
import Derived.Test.YtkmkbmkaeopilaaGreatRexWT2
import Derived.Test.YtkmkbmkaeopilaaGreatRexWT3
namespace Go.Rex.Sw
noncomputable def g55 (f : Nat) : List Memo := findN [] f []
theorem m55_ok : m55.Ok Go.Proofs.Tryz.prog 16 :=
  ran_ofB (mach_ok (gs := g55) (table_ok rows_nil)) (by kernel_rfl)
noncomputable def g56 (f : Nat) : List Memo := findN [] f []
theorem m56_ok : m56.Ok Go.Proofs.Tryz.prog 18 :=
  ran_ofB (mach_ok (gs := g56) (table_ok rows_nil)) (by kernel_rfl)
noncomputable def g57 (f : Nat) : List Memo := findN [] f []
theorem m57_ok : m57.Ok Go.Proofs.Tryz.prog 16 :=
  ran_ofB (mach_ok (gs := g57) (table_ok rows_nil)) (by kernel_rfl)
noncomputable def g58 (f : Nat) : List Memo := findN [] f []
theorem m58_ok : m58.Ok Go.Proofs.Tryz.prog 18 :=
  ran_ofB (mach_ok (gs := g58) (table_ok rows_nil)) (by kernel_rfl)
noncomputable def c30tf (f : Nat) : List Memo := findN [] f [(14, [{ m2 with keep := kP [k3] }, { m13 with keep := kP [k16] }]), (15, [{ m5 with keep := kP [k4, k5] }, { m16 with keep := kP [k17, k18] }]), (16, [{ m55 with keep := kP [k4, k6] }, { m57 with keep := kP [k17, k19] }]), (17, [{ m7 with keep := kP [k4, k5, k101] }, { m18 with keep := kP [k17, k18, k103] }]), (18, [{ m56 with keep := kP [k4, k6, k102] }, { m58 with keep := kP [k17, k19, k104] }]), (22, [{ m9 with keep := kP [k4, k5, k101, k97] }, { m20 with keep := kP [k17, k18, k103, k100] }])]
theorem c30tf_ok (u : Un) : ∃ call, CallOk Go.Proofs.Tryz.prog call ∧ caseRun call (t17 u true false 3 0) = .ok :=
  ⟨mach c30tf, mach_ok (table_ok (rows_cons (memos_cons m2_ok (memos_cons m13_ok memos_nil)) (rows_cons (memos_cons m5_ok (memos_cons m16_ok memos_nil)) (rows_cons (memos_cons m55_ok (memos_cons m57_ok memos_nil)) (rows_cons (memos_cons m7_ok (memos_cons m18_ok memos_nil)) (rows_cons (memos_cons m56_ok (memos_cons m58_ok memos_nil)) (rows_cons (memos_cons m9_ok (memos_cons m20_ok memos_nil)) rows_nil))))))), okB_ok (by kernel_rfl)⟩
end Go.Rex.Sw
