/- Calls that are run once. Conditions: none. -/
import Derived.Test.YtkmkbmkaeopilaaGreatRexWD1
import Derived.Test.YtkmkbmkaeopilaaGreatRexWS2
import Derived.Test.YtkmkbmkaeopilaaGreatRexWS3
import Derived.Test.YtkmkbmkaeopilaaGreatRexWT2
import Derived.Test.YtkmkbmkaeopilaaGreatRexWT3
namespace Go.Rex.Sw
noncomputable def g75 (f : Nat) : List Memo := findN [] f []
theorem m75_ok : m75.Ok Go.Proofs.Tryz.prog 16 :=
  ran_ofB (mach_ok (gs := g75) (table_ok rows_nil)) (by kernel_rfl)
noncomputable def g76 (f : Nat) : List Memo := findN [] f []
theorem m76_ok : m76.Ok Go.Proofs.Tryz.prog 18 :=
  ran_ofB (mach_ok (gs := g76) (table_ok rows_nil)) (by kernel_rfl)
noncomputable def g77 (f : Nat) : List Memo := findN [] f []
theorem m77_ok : m77.Ok Go.Proofs.Tryz.prog 16 :=
  ran_ofB (mach_ok (gs := g77) (table_ok rows_nil)) (by kernel_rfl)
noncomputable def g78 (f : Nat) : List Memo := findN [] f []
theorem m78_ok : m78.Ok Go.Proofs.Tryz.prog 18 :=
  ran_ofB (mach_ok (gs := g78) (table_ok rows_nil)) (by kernel_rfl)
noncomputable def c30tt (f : Nat) : List Memo := findN [] f [(14, [{ m2 with keep := kP [k3] }, { m13 with keep := kP [k16] }]), (15, [{ m5 with keep := kP [k4, k5] }, { m16 with keep := kP [k17, k18] }]), (16, [{ m75 with keep := kP [k4, k6] }, { m77 with keep := kP [k17, k19] }]), (17, [{ m7 with keep := kP [k4, k5, k105] }, { m18 with keep := kP [k17, k18, k107] }]), (18, [{ m76 with keep := kP [k4, k6, k106] }, { m78 with keep := kP [k17, k19, k108] }]), (22, [{ m9 with keep := kP [k4, k5, k105, k97] }, { m20 with keep := kP [k17, k18, k107, k100] }])]
theorem c30tt_ok (u : Un) : ∃ call, CallOk Go.Proofs.Tryz.prog call ∧ caseRun call (t17 u true true 3 0) = .ok :=
  ⟨mach c30tt, mach_ok (table_ok (rows_cons (memos_cons m2_ok (memos_cons m13_ok memos_nil)) (rows_cons (memos_cons m5_ok (memos_cons m16_ok memos_nil)) (rows_cons (memos_cons m75_ok (memos_cons m77_ok memos_nil)) (rows_cons (memos_cons m7_ok (memos_cons m18_ok memos_nil)) (rows_cons (memos_cons m76_ok (memos_cons m78_ok memos_nil)) (rows_cons (memos_cons m9_ok (memos_cons m20_ok memos_nil)) rows_nil))))))), okB_ok (by kernel_rfl)⟩
end Go.Rex.Sw
