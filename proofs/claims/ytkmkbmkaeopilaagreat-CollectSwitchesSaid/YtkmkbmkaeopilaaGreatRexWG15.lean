/- Calls that are run once. Conditions: none. -/
import Derived.Test.YtkmkbmkaeopilaaGreatRexWD1
import Derived.Test.YtkmkbmkaeopilaaGreatRexWS2
import Derived.Test.YtkmkbmkaeopilaaGreatRexWS3
import Derived.Test.YtkmkbmkaeopilaaGreatRexWT2
import Derived.Test.YtkmkbmkaeopilaaGreatRexWT3
namespace Go.Rex.Sw
noncomputable def g51 (f : Nat) : List Memo := findN [] f []
theorem m51_ok : m51.Ok Go.Proofs.Tryz.prog 16 :=
  ran_ofB (mach_ok (gs := g51) (table_ok rows_nil)) (by kernel_rfl)
noncomputable def g52 (f : Nat) : List Memo := findN [] f []
theorem m52_ok : m52.Ok Go.Proofs.Tryz.prog 18 :=
  ran_ofB (mach_ok (gs := g52) (table_ok rows_nil)) (by kernel_rfl)
noncomputable def g53 (f : Nat) : List Memo := findN [] f []
theorem m53_ok : m53.Ok Go.Proofs.Tryz.prog 16 :=
  ran_ofB (mach_ok (gs := g53) (table_ok rows_nil)) (by kernel_rfl)
noncomputable def g54 (f : Nat) : List Memo := findN [] f []
theorem m54_ok : m54.Ok Go.Proofs.Tryz.prog 18 :=
  ran_ofB (mach_ok (gs := g54) (table_ok rows_nil)) (by kernel_rfl)
noncomputable def c20tt (f : Nat) : List Memo := findN [] f [(14, [{ m2 with keep := kP [k3] }, { m13 with keep := kP [k16] }]), (15, [{ m5 with keep := kP [k4, k5] }, { m16 with keep := kP [k17, k18] }]), (16, [{ m51 with keep := kP [k4, k6] }, { m53 with keep := kP [k17, k19] }]), (17, [{ m7 with keep := kP [k4, k5, k79] }, { m18 with keep := kP [k17, k18, k81] }]), (18, [{ m52 with keep := kP [k4, k6, k80] }, { m54 with keep := kP [k17, k19, k82] }]), (22, [{ m9 with keep := kP [k4, k5, k79, k71] }, { m20 with keep := kP [k17, k18, k81, k74] }])]
theorem c20tt_ok (u : Un) : ∃ call, CallOk Go.Proofs.Tryz.prog call ∧ caseRun call (t17 u true true 2 0) = .ok :=
  ⟨mach c20tt, mach_ok (table_ok (rows_cons (memos_cons m2_ok (memos_cons m13_ok memos_nil)) (rows_cons (memos_cons m5_ok (memos_cons m16_ok memos_nil)) (rows_cons (memos_cons m51_ok (memos_cons m53_ok memos_nil)) (rows_cons (memos_cons m7_ok (memos_cons m18_ok memos_nil)) (rows_cons (memos_cons m52_ok (memos_cons m54_ok memos_nil)) (rows_cons (memos_cons m9_ok (memos_cons m20_ok memos_nil)) rows_nil))))))), okB_ok (by kernel_rfl)⟩
end Go.Rex.Sw
