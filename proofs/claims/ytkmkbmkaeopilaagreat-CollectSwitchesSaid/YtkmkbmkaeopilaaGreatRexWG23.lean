/- Calls that are run once. Conditions: none. -/
import Derived.Test.YtkmkbmkaeopilaaGreatRexWD1
import Derived.Test.YtkmkbmkaeopilaaGreatRexWS2
import Derived.Test.YtkmkbmkaeopilaaGreatRexWS3
import Derived.Test.YtkmkbmkaeopilaaGreatRexWT2
import Derived.Test.YtkmkbmkaeopilaaGreatRexWT3
namespace Go.Rex.Sw
noncomputable def g95 (f : Nat) : List Memo := findN [] f []
theorem m95_ok : m95.Ok Go.Proofs.Tryz.prog 16 :=
  ran_ofB (mach_ok (gs := g95) (table_ok rows_nil)) (by kernel_rfl)
noncomputable def g96 (f : Nat) : List Memo := findN [] f []
theorem m96_ok : m96.Ok Go.Proofs.Tryz.prog 18 :=
  ran_ofB (mach_ok (gs := g96) (table_ok rows_nil)) (by kernel_rfl)
noncomputable def g97 (f : Nat) : List Memo := findN [] f []
theorem m97_ok : m97.Ok Go.Proofs.Tryz.prog 16 :=
  ran_ofB (mach_ok (gs := g97) (table_ok rows_nil)) (by kernel_rfl)
noncomputable def g98 (f : Nat) : List Memo := findN [] f []
theorem m98_ok : m98.Ok Go.Proofs.Tryz.prog 18 :=
  ran_ofB (mach_ok (gs := g98) (table_ok rows_nil)) (by kernel_rfl)
noncomputable def c31tf (f : Nat) : List Memo := findN [] f [(14, [{ m2 with keep := kP [k3] }, { m13 with keep := kP [k16] }]), (15, [{ m5 with keep := kP [k4, k5] }, { m16 with keep := kP [k17, k18] }]), (16, [{ m95 with keep := kP [k4, k6] }, { m97 with keep := kP [k17, k19] }]), (17, [{ m7 with keep := kP [k4, k5, k117] }, { m18 with keep := kP [k17, k18, k119] }]), (18, [{ m96 with keep := kP [k4, k6, k118] }, { m98 with keep := kP [k17, k19, k120] }]), (22, [{ m9 with keep := kP [k4, k5, k117, k111] }, { m20 with keep := kP [k17, k18, k119, k114] }])]
theorem c31tf_ok (u : Un) : ∃ call, CallOk Go.Proofs.Tryz.prog call ∧ caseRun call (t17 u true false 3 1) = .ok :=
  ⟨mach c31tf, mach_ok (table_ok (rows_cons (memos_cons m2_ok (memos_cons m13_ok memos_nil)) (rows_cons (memos_cons m5_ok (memos_cons m16_ok memos_nil)) (rows_cons (memos_cons m95_ok (memos_cons m97_ok memos_nil)) (rows_cons (memos_cons m7_ok (memos_cons m18_ok memos_nil)) (rows_cons (memos_cons m96_ok (memos_cons m98_ok memos_nil)) (rows_cons (memos_cons m9_ok (memos_cons m20_ok memos_nil)) rows_nil))))))), okB_ok (by kernel_rfl)⟩
noncomputable def c31tt (f : Nat) : List Memo := findN [] f [(14, [{ m2 with keep := kP [k3] }, { m13 with keep := kP [k16] }]), (15, [{ m5 with keep := kP [k4, k5] }, { m16 with keep := kP [k17, k18] }]), (16, [{ m95 with keep := kP [k4, k6] }, { m97 with keep := kP [k17, k19] }]), (17, [{ m7 with keep := kP [k4, k5, k117] }, { m18 with keep := kP [k17, k18, k119] }]), (18, [{ m96 with keep := kP [k4, k6, k118] }, { m98 with keep := kP [k17, k19, k120] }]), (22, [{ m9 with keep := kP [k4, k5, k117, k115] }, { m20 with keep := kP [k17, k18, k119, k116] }])]
theorem c31tt_ok (u : Un) : ∃ call, CallOk Go.Proofs.Tryz.prog call ∧ caseRun call (t17 u true true 3 1) = .ok :=
  ⟨mach c31tt, mach_ok (table_ok (rows_cons (memos_cons m2_ok (memos_cons m13_ok memos_nil)) (rows_cons (memos_cons m5_ok (memos_cons m16_ok memos_nil)) (rows_cons (memos_cons m95_ok (memos_cons m97_ok memos_nil)) (rows_cons (memos_cons m7_ok (memos_cons m18_ok memos_nil)) (rows_cons (memos_cons m96_ok (memos_cons m98_ok memos_nil)) (rows_cons (memos_cons m9_ok (memos_cons m20_ok memos_nil)) rows_nil))))))), okB_ok (by kernel_rfl)⟩
end Go.Rex.Sw
