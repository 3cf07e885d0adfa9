/- Calls that are run once. Conditions: none. -/
import Derived.Test.YtkmkbmkaeopilaaGreatRexWD1
import Derived.Test.YtkmkbmkaeopilaaGreatRexWS2
import Derived.Test.YtkmkbmkaeopilaaGreatRexWS3
namespace Go.Rex.Sw
noncomputable def g10 (f : Nat) : List Memo := findN [] f [(14, [{ m2 with keep := kP [k3] }]), (15, [{ m5 with keep := kP [k4, k5] }]), (16, [{ m6 with keep := kP [k4, k6] }]), (17, [{ m7 with keep := kP [k4, k5, k7] }]), (18, [{ m8 with keep := kP [k4, k6, k8] }]), (22, [{ m9 with keep := kP [k4, k5, k7, k9] }])]
theorem m10_ok : m10.Ok Go.Proofs.Tryz.prog 4 :=
  ran_ofB (mach_ok (gs := g10) (table_ok (rows_cons (memos_cons m2_ok memos_nil) (rows_cons (memos_cons m5_ok memos_nil) (rows_cons (memos_cons m6_ok memos_nil) (rows_cons (memos_cons m7_ok memos_nil) (rows_cons (memos_cons m8_ok memos_nil) (rows_cons (memos_cons m9_ok memos_nil) rows_nil)))))))) (by kernel_rfl)
end Go.Rex.Sw
