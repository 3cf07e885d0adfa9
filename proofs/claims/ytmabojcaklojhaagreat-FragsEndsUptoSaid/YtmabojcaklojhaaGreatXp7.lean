/- Part Xp7 of the proof of FragsEnds: no condition. -/
import Derived.Test.YtmabojcaklojhaaGreatXs
import Derived.Test.YtmabojcaklojhaaGreatXp1
import Derived.Test.YtmabojcaklojhaaGreatXp6
namespace Go.aQ.pH
noncomputable def ms7 (f:Nat):List eU:=ma [] f [(112,[{ m1 with br:=[(z 64),(z 0),(z 63)] }]),(113,[{ mq6 with br:=[(z 64),(z 0),(z 4691),(z 63)] }])]
theorem m7_ok:mq7.Ok Go.Proofs.Tryz.prog 66 :=
 mN (jb ez Pl j9 ms7 (ik (iU (fU NT iT) (iU (fU m6_ok iT) jX))) 1000000 300) (by kernel_rfl)
end Go.aQ.pH
