/- Calls that are run once. Conditions: none. -/
import Derived.Test.YtkmkbmkaeopilaaGreatRexWD1
import Derived.Test.YtkmkbmkaeopilaaGreatRexWS0
namespace Go.Rex.Sw
noncomputable def g5 (f : Nat) : List Memo := findN [] f [(17, [{ m3 with keep := [] }]), (40, [{ m4 with keep := kP [k2] }])]
theorem m5_ok : m5.Ok Go.Proofs.Tryz.prog 15 :=
  ran_ofB (mach_ok (gs := g5) (table_ok (rows_cons (memos_cons m3_ok memos_nil) (rows_cons (memos_cons m4_ok memos_nil) rows_nil)))) (by kernel_rfl)
end Go.Rex.Sw
