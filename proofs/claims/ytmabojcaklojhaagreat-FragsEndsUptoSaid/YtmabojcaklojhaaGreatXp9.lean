/- Part Xp9 of the proof of FragsEnds: no condition. -/
import Derived.Test.YtmabojcaklojhaaGreatXs
import Derived.Test.YtmabojcaklojhaaGreatXp7
import Derived.Test.YtmabojcaklojhaaGreatXp8
namespace Go.aQ.pH
noncomputable def ms9 (f:Nat):List eU:=ma [] f [(66,[{ mq7 with br:=[] },{ mq8 with br:=[] }])]
theorem m9_ok:mq9.Ok Go.Proofs.Tryz.prog 27 :=
 mN (jb ez Pl j9 ms9 (ik (iU (fU m7_ok (fU m8_ok iT)) jX)) 1000000 300) (by kernel_rfl)
end Go.aQ.pH
