/- Calls that are run once. Conditions: none. -/
import Derived.Test.YtkmkbmkaeopilaaGreatRexWD1
import Derived.Test.YtkmkbmkaeopilaaGreatRexWT0
namespace Go.Rex.Sw
noncomputable def g16 (f : Nat) : List Memo := findN [] f [(17, [{ m14 with keep := [] }]), (40, [{ m15 with keep := kP [k12] }])]
theorem m16_ok : m16.Ok Go.Proofs.Tryz.prog 15 :=
  ran_ofB (mach_ok (gs := g16) (table_ok (rows_cons (memos_cons m14_ok memos_nil) (rows_cons (memos_cons m15_ok memos_nil) rows_nil)))) (by kernel_rfl)
end Go.Rex.Sw
