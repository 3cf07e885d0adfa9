/- Calls that are run once. Conditions: none. -/
import Derived.Test.YtkmkbmkaeopilaaGreatRexWD1
import Derived.Test.YtkmkbmkaeopilaaGreatRexWS2
import Derived.Test.YtkmkbmkaeopilaaGreatRexWS3
import Derived.Test.YtkmkbmkaeopilaaGreatRexWT2
import Derived.Test.YtkmkbmkaeopilaaGreatRexWT3
namespace Go.Rex.Sw
noncomputable def g37 (f : Nat) : List Memo := findN [] f []
theorem m37_ok : m37.Ok Go.Proofs.Tryz.prog 16 :=
  ran_ofB (mach_ok (gs := g37) (table_ok rows_nil)) (by kernel_rfl)
noncomputable def g38 (f : Nat) : List Memo := findN [] f []
theorem m38_ok : m38.Ok Go.Proofs.Tryz.prog 18 :=
  ran_ofB (mach_ok (gs := g38) (table_ok rows_nil)) (by kernel_rfl)
noncomputable def g39 (f : Nat) : List Memo := findN [] f []
theorem m39_ok : m39.Ok Go.Proofs.Tryz.prog 16 :=
  ran_ofB (mach_ok (gs := g39) (table_ok rows_nil)) (by kernel_rfl)
noncomputable def g40 (f : Nat) : List Memo := findN [] f []
theorem m40_ok : m40.Ok Go.Proofs.Tryz.prog 18 :=
  ran_ofB (mach_ok (gs := g40) (table_ok rows_nil)) (by kernel_rfl)
noncomputable def c31ff (f : Nat) : List Memo := findN [] f [(14, [{ m2 with keep := kP [k3] }, { m13 with keep := kP [k16] }]), (15, [{ m5 with keep := kP [k4, k5] }, { m16 with keep := kP [k17, k18] }]), (16, [{ m37 with keep := kP [k4, k6] }, { m39 with keep := kP [k17, k19] }]), (17, [{ m7 with keep := kP [k4, k5, k109] }, { m18 with keep := kP [k17, k18, k112] }]), (18, [{ m38 with keep := kP [k4, k6, k110] }, { m40 with keep := kP [k17, k19, k113] }]), (22, [{ m9 with keep := kP [k4, k5, k109, k111] }, { m20 with keep := kP [k17, k18, k112, k114] }])]
theorem c31ff_ok (u : Un) : ∃ call, CallOk Go.Proofs.Tryz.prog call ∧ caseRun call (t17 u false false 3 1) = .ok :=
  ⟨mach c31ff, mach_ok (table_ok (rows_cons (memos_cons m2_ok (memos_cons m13_ok memos_nil)) (rows_cons (memos_cons m5_ok (memos_cons m16_ok memos_nil)) (rows_cons (memos_cons m37_ok (memos_cons m39_ok memos_nil)) (rows_cons (memos_cons m7_ok (memos_cons m18_ok memos_nil)) (rows_cons (memos_cons m38_ok (memos_cons m40_ok memos_nil)) (rows_cons (memos_cons m9_ok (memos_cons m20_ok memos_nil)) rows_nil))))))), okB_ok (by kernel_rfl)⟩
noncomputable def c31ft (f : Nat) : List Memo := findN [] f [(14, [{ m2 with keep := kP [k3] }, { m13 with keep := kP [k16] }]), (15, [{ m5 with keep := kP [k4, k5] }, { m16 with keep := kP [k17, k18] }]), (16, [{ m37 with keep := kP [k4, k6] }, { m39 with keep := kP [k17, k19] }]), (17, [{ m7 with keep := kP [k4, k5, k109] }, { m18 with keep := kP [k17, k18, k112] }]), (18, [{ m38 with keep := kP [k4, k6, k110] }, { m40 with keep := kP [k17, k19, k113] }]), (22, [{ m9 with keep := kP [k4, k5, k109, k115] }, { m20 with keep := kP [k17, k18, k112, k116] }])]
theorem c31ft_ok (u : Un) : ∃ call, CallOk Go.Proofs.Tryz.prog call ∧ caseRun call (t17 u false true 3 1) = .ok :=
  ⟨mach c31ft, mach_ok (table_ok (rows_cons (memos_cons m2_ok (memos_cons m13_ok memos_nil)) (rows_cons (memos_cons m5_ok (memos_cons m16_ok memos_nil)) (rows_cons (memos_cons m37_ok (memos_cons m39_ok memos_nil)) (rows_cons (memos_cons m7_ok (memos_cons m18_ok memos_nil)) (rows_cons (memos_cons m38_ok (memos_cons m40_ok memos_nil)) (rows_cons (memos_cons m9_ok (memos_cons m20_ok memos_nil)) rows_nil))))))), okB_ok (by kernel_rfl)⟩
end Go.Rex.Sw
