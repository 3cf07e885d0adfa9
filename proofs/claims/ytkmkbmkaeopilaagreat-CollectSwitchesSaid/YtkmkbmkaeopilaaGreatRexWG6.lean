/- Calls that are run once. Conditions: none. -/
import Derived.Test.YtkmkbmkaeopilaaGreatRexWD1
import Derived.Test.YtkmkbmkaeopilaaGreatRexWS2
import Derived.Test.YtkmkbmkaeopilaaGreatRexWS3
import Derived.Test.YtkmkbmkaeopilaaGreatRexWT2
import Derived.Test.YtkmkbmkaeopilaaGreatRexWT3
namespace Go.Rex.Sw
noncomputable def g43 (f : Nat) : List Memo := findN [] f []
theorem m43_ok : m43.Ok Go.Proofs.Tryz.prog 16 :=
  ran_ofB (mach_ok (gs := g43) (table_ok rows_nil)) (by kernel_rfl)
noncomputable def g44 (f : Nat) : List Memo := findN [] f []
theorem m44_ok : m44.Ok Go.Proofs.Tryz.prog 18 :=
  ran_ofB (mach_ok (gs := g44) (table_ok rows_nil)) (by kernel_rfl)
noncomputable def g45 (f : Nat) : List Memo := findN [] f []
theorem m45_ok : m45.Ok Go.Proofs.Tryz.prog 16 :=
  ran_ofB (mach_ok (gs := g45) (table_ok rows_nil)) (by kernel_rfl)
noncomputable def g46 (f : Nat) : List Memo := findN [] f []
theorem m46_ok : m46.Ok Go.Proofs.Tryz.prog 18 :=
  ran_ofB (mach_ok (gs := g46) (table_ok rows_nil)) (by kernel_rfl)
noncomputable def c10ff (f : Nat) : List Memo := findN [] f [(14, [{ m2 with keep := kP [k3] }, { m13 with keep := kP [k16] }]), (15, [{ m5 with keep := kP [k4, k5] }, { m16 with keep := kP [k17, k18] }]), (16, [{ m43 with keep := kP [k4, k6] }, { m45 with keep := kP [k17, k19] }]), (17, [{ m7 with keep := kP [k4, k5, k43] }, { m18 with keep := kP [k17, k18, k46] }]), (18, [{ m44 with keep := kP [k4, k6, k44] }, { m46 with keep := kP [k17, k19, k47] }]), (22, [{ m9 with keep := kP [k4, k5, k43, k45] }, { m20 with keep := kP [k17, k18, k46, k48] }])]
theorem c10ff_ok (u : Un) : ∃ call, CallOk Go.Proofs.Tryz.prog call ∧ caseRun call (t17 u false false 1 0) = .ok :=
  ⟨mach c10ff, mach_ok (table_ok (rows_cons (memos_cons m2_ok (memos_cons m13_ok memos_nil)) (rows_cons (memos_cons m5_ok (memos_cons m16_ok memos_nil)) (rows_cons (memos_cons m43_ok (memos_cons m45_ok memos_nil)) (rows_cons (memos_cons m7_ok (memos_cons m18_ok memos_nil)) (rows_cons (memos_cons m44_ok (memos_cons m46_ok memos_nil)) (rows_cons (memos_cons m9_ok (memos_cons m20_ok memos_nil)) rows_nil))))))), okB_ok (by kernel_rfl)⟩
end Go.Rex.Sw
