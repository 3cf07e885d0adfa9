/- Calls that are run once. Conditions: none. -/
import Derived.Test.YtkmkbmkaeopilaaGreatRexWD1
import Derived.Test.YtkmkbmkaeopilaaGreatRexWS2
import Derived.Test.YtkmkbmkaeopilaaGreatRexWS3
import Derived.Test.YtkmkbmkaeopilaaGreatRexWT2
import Derived.Test.YtkmkbmkaeopilaaGreatRexWT3
namespace Go.Rex.Sw
noncomputable def g83 (f : Nat) : List Memo := findN [] f []
theorem m83_ok : m83.Ok Go.Proofs.Tryz.prog 16 :=
  ran_ofB (mach_ok (gs := g83) (table_ok rows_nil)) (by kernel_rfl)
noncomputable def g84 (f : Nat) : List Memo := findN [] f []
theorem m84_ok : m84.Ok Go.Proofs.Tryz.prog 18 :=
  ran_ofB (mach_ok (gs := g84) (table_ok rows_nil)) (by kernel_rfl)
noncomputable def g85 (f : Nat) : List Memo := findN [] f []
theorem m85_ok : m85.Ok Go.Proofs.Tryz.prog 16 :=
  ran_ofB (mach_ok (gs := g85) (table_ok rows_nil)) (by kernel_rfl)
noncomputable def g86 (f : Nat) : List Memo := findN [] f []
theorem m86_ok : m86.Ok Go.Proofs.Tryz.prog 18 :=
  ran_ofB (mach_ok (gs := g86) (table_ok rows_nil)) (by kernel_rfl)
noncomputable def c11ff (f : Nat) : List Memo := findN [] f [(14, [{ m2 with keep := kP [k3] }, { m13 with keep := kP [k16] }]), (15, [{ m5 with keep := kP [k4, k5] }, { m16 with keep := kP [k17, k18] }]), (16, [{ m83 with keep := kP [k4, k6] }, { m85 with keep := kP [k17, k19] }]), (17, [{ m7 with keep := kP [k4, k5, k57] }, { m18 with keep := kP [k17, k18, k60] }]), (18, [{ m84 with keep := kP [k4, k6, k58] }, { m86 with keep := kP [k17, k19, k61] }]), (22, [{ m9 with keep := kP [k4, k5, k57, k59] }, { m20 with keep := kP [k17, k18, k60, k62] }])]
theorem c11ff_ok (u : Un) : ∃ call, CallOk Go.Proofs.Tryz.prog call ∧ caseRun call (t17 u false false 1 1) = .ok :=
  ⟨mach c11ff, mach_ok (table_ok (rows_cons (memos_cons m2_ok (memos_cons m13_ok memos_nil)) (rows_cons (memos_cons m5_ok (memos_cons m16_ok memos_nil)) (rows_cons (memos_cons m83_ok (memos_cons m85_ok memos_nil)) (rows_cons (memos_cons m7_ok (memos_cons m18_ok memos_nil)) (rows_cons (memos_cons m84_ok (memos_cons m86_ok memos_nil)) (rows_cons (memos_cons m9_ok (memos_cons m20_ok memos_nil)) rows_nil))))))), okB_ok (by kernel_rfl)⟩
noncomputable def c11ft (f : Nat) : List Memo := findN [] f [(14, [{ m2 with keep := kP [k3] }, { m13 with keep := kP [k16] }]), (15, [{ m5 with keep := kP [k4, k5] }, { m16 with keep := kP [k17, k18] }]), (16, [{ m83 with keep := kP [k4, k6] }, { m85 with keep := kP [k17, k19] }]), (17, [{ m7 with keep := kP [k4, k5, k57] }, { m18 with keep := kP [k17, k18, k60] }]), (18, [{ m84 with keep := kP [k4, k6, k58] }, { m86 with keep := kP [k17, k19, k61] }]), (22, [{ m9 with keep := kP [k4, k5, k57, k63] }, { m20 with keep := kP [k17, k18, k60, k64] }])]
theorem c11ft_ok (u : Un) : ∃ call, CallOk Go.Proofs.Tryz.prog call ∧ caseRun call (t17 u false true 1 1) = .ok :=
  ⟨mach c11ft, mach_ok (table_ok (rows_cons (memos_cons m2_ok (memos_cons m13_ok memos_nil)) (rows_cons (memos_cons m5_ok (memos_cons m16_ok memos_nil)) (rows_cons (memos_cons m83_ok (memos_cons m85_ok memos_nil)) (rows_cons (memos_cons m7_ok (memos_cons m18_ok memos_nil)) (rows_cons (memos_cons m84_ok (memos_cons m86_ok memos_nil)) (rows_cons (memos_cons m9_ok (memos_cons m20_ok memos_nil)) rows_nil))))))), okB_ok (by kernel_rfl)⟩
end Go.Rex.Sw
