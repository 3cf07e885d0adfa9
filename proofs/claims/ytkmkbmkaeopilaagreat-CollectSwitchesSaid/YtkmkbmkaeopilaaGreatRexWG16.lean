/- Calls that are run once. Conditions: none. -/
import Derived.Test.YtkmkbmkaeopilaaGreatRexWD1
import Derived.Test.YtkmkbmkaeopilaaGreatRexWS2
import Derived.Test.YtkmkbmkaeopilaaGreatRexWS3
import Derived.Test.YtkmkbmkaeopilaaGreatRexWT2
import Derived.Test.YtkmkbmkaeopilaaGreatRexWT3
namespace Go.Rex.Sw
noncomputable def g107 (f : Nat) : List Memo := findN [] f []
theorem m107_ok : m107.Ok Go.Proofs.Tryz.prog 16 :=
  ran_ofB (mach_ok (gs := g107) (table_ok rows_nil)) (by kernel_rfl)
noncomputable def g108 (f : Nat) : List Memo := findN [] f []
theorem m108_ok : m108.Ok Go.Proofs.Tryz.prog 18 :=
  ran_ofB (mach_ok (gs := g108) (table_ok rows_nil)) (by kernel_rfl)
noncomputable def g109 (f : Nat) : List Memo := findN [] f []
theorem m109_ok : m109.Ok Go.Proofs.Tryz.prog 16 :=
  ran_ofB (mach_ok (gs := g109) (table_ok rows_nil)) (by kernel_rfl)
noncomputable def g110 (f : Nat) : List Memo := findN [] f []
theorem m110_ok : m110.Ok Go.Proofs.Tryz.prog 18 :=
  ran_ofB (mach_ok (gs := g110) (table_ok rows_nil)) (by kernel_rfl)
noncomputable def c21ff (f : Nat) : List Memo := findN [] f [(14, [{ m2 with keep := kP [k3] }, { m13 with keep := kP [k16] }]), (15, [{ m5 with keep := kP [k4, k5] }, { m16 with keep := kP [k17, k18] }]), (16, [{ m107 with keep := kP [k4, k6] }, { m109 with keep := kP [k17, k19] }]), (17, [{ m7 with keep := kP [k4, k5, k83] }, { m18 with keep := kP [k17, k18, k86] }]), (18, [{ m108 with keep := kP [k4, k6, k84] }, { m110 with keep := kP [k17, k19, k87] }]), (22, [{ m9 with keep := kP [k4, k5, k83, k85] }, { m20 with keep := kP [k17, k18, k86, k88] }])]
theorem c21ff_ok (u : Un) : ∃ call, CallOk Go.Proofs.Tryz.prog call ∧ caseRun call (t17 u false false 2 1) = .ok :=
  ⟨mach c21ff, mach_ok (table_ok (rows_cons (memos_cons m2_ok (memos_cons m13_ok memos_nil)) (rows_cons (memos_cons m5_ok (memos_cons m16_ok memos_nil)) (rows_cons (memos_cons m107_ok (memos_cons m109_ok memos_nil)) (rows_cons (memos_cons m7_ok (memos_cons m18_ok memos_nil)) (rows_cons (memos_cons m108_ok (memos_cons m110_ok memos_nil)) (rows_cons (memos_cons m9_ok (memos_cons m20_ok memos_nil)) rows_nil))))))), okB_ok (by kernel_rfl)⟩
noncomputable def c21ft (f : Nat) : List Memo := findN [] f [(14, [{ m2 with keep := kP [k3] }, { m13 with keep := kP [k16] }]), (15, [{ m5 with keep := kP [k4, k5] }, { m16 with keep := kP [k17, k18] }]), (16, [{ m107 with keep := kP [k4, k6] }, { m109 with keep := kP [k17, k19] }]), (17, [{ m7 with keep := kP [k4, k5, k83] }, { m18 with keep := kP [k17, k18, k86] }]), (18, [{ m108 with keep := kP [k4, k6, k84] }, { m110 with keep := kP [k17, k19, k87] }]), (22, [{ m9 with keep := kP [k4, k5, k83, k89] }, { m20 with keep := kP [k17, k18, k86, k90] }])]
theorem c21ft_ok (u : Un) : ∃ call, CallOk Go.Proofs.Tryz.prog call ∧ caseRun call (t17 u false true 2 1) = .ok :=
  ⟨mach c21ft, mach_ok (table_ok (rows_cons (memos_cons m2_ok (memos_cons m13_ok memos_nil)) (rows_cons (memos_cons m5_ok (memos_cons m16_ok memos_nil)) (rows_cons (memos_cons m107_ok (memos_cons m109_ok memos_nil)) (rows_cons (memos_cons m7_ok (memos_cons m18_ok memos_nil)) (rows_cons (memos_cons m108_ok (memos_cons m110_ok memos_nil)) (rows_cons (memos_cons m9_ok (memos_cons m20_ok memos_nil)) rows_nil))))))), okB_ok (by kernel_rfl)⟩
end Go.Rex.Sw
