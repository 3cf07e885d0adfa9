/- Calls that are run once. Conditions: none. -/
import Derived.Test.YtkmkbmkaeopilaaGreatRexWD1
import Derived.Test.YtkmkbmkaeopilaaGreatRexWS2
import Derived.Test.YtkmkbmkaeopilaaGreatRexWS3
import Derived.Test.YtkmkbmkaeopilaaGreatRexWT2
import Derived.Test.YtkmkbmkaeopilaaGreatRexWT3
namespace Go.Rex.Sw
noncomputable def g17 (f : Nat) : List Memo := findN [] f []
theorem m17_ok : m17.Ok Go.Proofs.Tryz.prog 16 :=
  ran_ofB (mach_ok (gs := g17) (table_ok rows_nil)) (by kernel_rfl)
noncomputable def g19 (f : Nat) : List Memo := findN [] f []
theorem m19_ok : m19.Ok Go.Proofs.Tryz.prog 18 :=
  ran_ofB (mach_ok (gs := g19) (table_ok rows_nil)) (by kernel_rfl)
noncomputable def g41 (f : Nat) : List Memo := findN [] f []
theorem m41_ok : m41.Ok Go.Proofs.Tryz.prog 16 :=
  ran_ofB (mach_ok (gs := g41) (table_ok rows_nil)) (by kernel_rfl)
noncomputable def g42 (f : Nat) : List Memo := findN [] f []
theorem m42_ok : m42.Ok Go.Proofs.Tryz.prog 18 :=
  ran_ofB (mach_ok (gs := g42) (table_ok rows_nil)) (by kernel_rfl)
noncomputable def c00ft (f : Nat) : List Memo := findN [] f [(14, [{ m2 with keep := kP [k3] }, { m13 with keep := kP [k16] }]), (15, [{ m5 with keep := kP [k4, k5] }, { m16 with keep := kP [k17, k18] }]), (16, [{ m41 with keep := kP [k4, k6] }, { m17 with keep := kP [k17, k19] }]), (17, [{ m7 with keep := kP [k4, k5, k23] }, { m18 with keep := kP [k17, k18, k25] }]), (18, [{ m42 with keep := kP [k4, k6, k24] }, { m19 with keep := kP [k17, k19, k26] }]), (22, [{ m9 with keep := kP [k4, k5, k23, k15] }, { m20 with keep := kP [k17, k18, k25, k22] }])]
theorem c00ft_ok (u : Un) : ∃ call, CallOk Go.Proofs.Tryz.prog call ∧ caseRun call (t17 u false true 0 0) = .ok :=
  ⟨mach c00ft, mach_ok (table_ok (rows_cons (memos_cons m2_ok (memos_cons m13_ok memos_nil)) (rows_cons (memos_cons m5_ok (memos_cons m16_ok memos_nil)) (rows_cons (memos_cons m41_ok (memos_cons m17_ok memos_nil)) (rows_cons (memos_cons m7_ok (memos_cons m18_ok memos_nil)) (rows_cons (memos_cons m42_ok (memos_cons m19_ok memos_nil)) (rows_cons (memos_cons m9_ok (memos_cons m20_ok memos_nil)) rows_nil))))))), okB_ok (by kernel_rfl)⟩
end Go.Rex.Sw
