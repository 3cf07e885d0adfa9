/- Calls that are run once. Conditions: none. -/
import Derived.Test.YtkmkbmkaeopilaaGreatRexWD1
import Derived.Test.YtkmkbmkaeopilaaGreatRexWS2
import Derived.Test.YtkmkbmkaeopilaaGreatRexWS3
import Derived.Test.YtkmkbmkaeopilaaGreatRexWT2
import Derived.Test.YtkmkbmkaeopilaaGreatRexWT3
namespace Go.Rex.Sw
noncomputable def g71 (f : Nat) : List Memo := findN [] f []
theorem m71_ok : m71.Ok Go.Proofs.Tryz.prog 16 :=
  ran_ofB (mach_ok (gs := g71) (table_ok rows_nil)) (by kernel_rfl)
noncomputable def g72 (f : Nat) : List Memo := findN [] f []
theorem m72_ok : m72.Ok Go.Proofs.Tryz.prog 18 :=
  ran_ofB (mach_ok (gs := g72) (table_ok rows_nil)) (by kernel_rfl)
noncomputable def g73 (f : Nat) : List Memo := findN [] f []
theorem m73_ok : m73.Ok Go.Proofs.Tryz.prog 16 :=
  ran_ofB (mach_ok (gs := g73) (table_ok rows_nil)) (by kernel_rfl)
noncomputable def g74 (f : Nat) : List Memo := findN [] f []
theorem m74_ok : m74.Ok Go.Proofs.Tryz.prog 18 :=
  ran_ofB (mach_ok (gs := g74) (table_ok rows_nil)) (by kernel_rfl)
noncomputable def c21tf (f : Nat) : List Memo := findN [] f [(14, [{ m2 with keep := kP [k3] }, { m13 with keep := kP [k16] }]), (15, [{ m5 with keep := kP [k4, k5] }, { m16 with keep := kP [k17, k18] }]), (16, [{ m71 with keep := kP [k4, k6] }, { m73 with keep := kP [k17, k19] }]), (17, [{ m7 with keep := kP [k4, k5, k91] }, { m18 with keep := kP [k17, k18, k93] }]), (18, [{ m72 with keep := kP [k4, k6, k92] }, { m74 with keep := kP [k17, k19, k94] }]), (22, [{ m9 with keep := kP [k4, k5, k91, k85] }, { m20 with keep := kP [k17, k18, k93, k88] }])]
theorem c21tf_ok (u : Un) : ∃ call, CallOk Go.Proofs.Tryz.prog call ∧ caseRun call (t17 u true false 2 1) = .ok :=
  ⟨mach c21tf, mach_ok (table_ok (rows_cons (memos_cons m2_ok (memos_cons m13_ok memos_nil)) (rows_cons (memos_cons m5_ok (memos_cons m16_ok memos_nil)) (rows_cons (memos_cons m71_ok (memos_cons m73_ok memos_nil)) (rows_cons (memos_cons m7_ok (memos_cons m18_ok memos_nil)) (rows_cons (memos_cons m72_ok (memos_cons m74_ok memos_nil)) (rows_cons (memos_cons m9_ok (memos_cons m20_ok memos_nil)) rows_nil))))))), okB_ok (by kernel_rfl)⟩
noncomputable def c21tt (f : Nat) : List Memo := findN [] f [(14, [{ m2 with keep := kP [k3] }, { m13 with keep := kP [k16] }]), (15, [{ m5 with keep := kP [k4, k5] }, { m16 with keep := kP [k17, k18] }]), (16, [{ m71 with keep := kP [k4, k6] }, { m73 with keep := kP [k17, k19] }]), (17, [{ m7 with keep := kP [k4, k5, k91] }, { m18 with keep := kP [k17, k18, k93] }]), (18, [{ m72 with keep := kP [k4, k6, k92] }, { m74 with keep := kP [k17, k19, k94] }]), (22, [{ m9 with keep := kP [k4, k5, k91, k89] }, { m20 with keep := kP [k17, k18, k93, k90] }])]
theorem c21tt_ok (u : Un) : ∃ call, CallOk Go.Proofs.Tryz.prog call ∧ caseRun call (t17 u true true 2 1) = .ok :=
  ⟨mach c21tt, mach_ok (table_ok (rows_cons (memos_cons m2_ok (memos_cons m13_ok memos_nil)) (rows_cons (memos_cons m5_ok (memos_cons m16_ok memos_nil)) (rows_cons (memos_cons m71_ok (memos_cons m73_ok memos_nil)) (rows_cons (memos_cons m7_ok (memos_cons m18_ok memos_nil)) (rows_cons (memos_cons m72_ok (memos_cons m74_ok memos_nil)) (rows_cons (memos_cons m9_ok (memos_cons m20_ok memos_nil)) rows_nil))))))), okB_ok (by kernel_rfl)⟩
end Go.Rex.Sw
