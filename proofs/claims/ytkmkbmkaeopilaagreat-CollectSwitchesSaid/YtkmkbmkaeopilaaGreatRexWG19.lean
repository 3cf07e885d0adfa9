/- Calls that are run once. Conditions: none. -/
import Derived.Test.YtkmkbmkaeopilaaGreatRexWD1
import Derived.Test.YtkmkbmkaeopilaaGreatRexWS2
import Derived.Test.YtkmkbmkaeopilaaGreatRexWS3
import Derived.Test.YtkmkbmkaeopilaaGreatRexWT2
import Derived.Test.YtkmkbmkaeopilaaGreatRexWT3
namespace Go.Rex.Sw
noncomputable def g111 (f : Nat) : List Memo := findN [] f []
theorem m111_ok : m111.Ok Go.Proofs.Tryz.prog 16 :=
  ran_ofB (mach_ok (gs := g111) (table_ok rows_nil)) (by kernel_rfl)
noncomputable def g112 (f : Nat) : List Memo := findN [] f []
theorem m112_ok : m112.Ok Go.Proofs.Tryz.prog 18 :=
  ran_ofB (mach_ok (gs := g112) (table_ok rows_nil)) (by kernel_rfl)
noncomputable def g113 (f : Nat) : List Memo := findN [] f []
theorem m113_ok : m113.Ok Go.Proofs.Tryz.prog 16 :=
  ran_ofB (mach_ok (gs := g113) (table_ok rows_nil)) (by kernel_rfl)
noncomputable def g114 (f : Nat) : List Memo := findN [] f []
theorem m114_ok : m114.Ok Go.Proofs.Tryz.prog 18 :=
  ran_ofB (mach_ok (gs := g114) (table_ok rows_nil)) (by kernel_rfl)
noncomputable def c30ft (f : Nat) : List Memo := findN [] f [(14, [{ m2 with keep := kP [k3] }, { m13 with keep := kP [k16] }]), (15, [{ m5 with keep := kP [k4, k5] }, { m16 with keep := kP [k17, k18] }]), (16, [{ m111 with keep := kP [k4, k6] }, { m113 with keep := kP [k17, k19] }]), (17, [{ m7 with keep := kP [k4, k5, k101] }, { m18 with keep := kP [k17, k18, k103] }]), (18, [{ m112 with keep := kP [k4, k6, k102] }, { m114 with keep := kP [k17, k19, k104] }]), (22, [{ m9 with keep := kP [k4, k5, k101, k97] }, { m20 with keep := kP [k17, k18, k103, k100] }])]
theorem c30ft_ok (u : Un) : ∃ call, CallOk Go.Proofs.Tryz.prog call ∧ caseRun call (t17 u false true 3 0) = .ok :=
  ⟨mach c30ft, mach_ok (table_ok (rows_cons (memos_cons m2_ok (memos_cons m13_ok memos_nil)) (rows_cons (memos_cons m5_ok (memos_cons m16_ok memos_nil)) (rows_cons (memos_cons m111_ok (memos_cons m113_ok memos_nil)) (rows_cons (memos_cons m7_ok (memos_cons m18_ok memos_nil)) (rows_cons (memos_cons m112_ok (memos_cons m114_ok memos_nil)) (rows_cons (memos_cons m9_ok (memos_cons m20_ok memos_nil)) rows_nil))))))), okB_ok (by kernel_rfl)⟩
end Go.Rex.Sw
