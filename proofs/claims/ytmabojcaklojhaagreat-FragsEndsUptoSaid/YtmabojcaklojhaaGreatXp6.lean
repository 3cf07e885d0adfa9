/- Part Xp6 of the proof of FragsEnds: no condition. -/
import Derived.Test.YtmabojcaklojhaaGreatXs
import Derived.Test.YtmabojcaklojhaaGreatXp2
import Derived.Test.YtmabojcaklojhaaGreatXp3
import Derived.Test.YtmabojcaklojhaaGreatXp4
import Derived.Test.YtmabojcaklojhaaGreatXp5
namespace Go.aQ.pH
noncomputable def ms6 (f:Nat):List eU:=ma [] f [(164,[{ m2 with br:=[(z 5870),(z 5498),(z 5530),(z 5868),(z 5360),(z 5865),(z 5863)] }]),(167,[{ m3 with br:=[] }]),(168,[{ m4 with br:=[] }]),(172,[{ m5 with br:=[] }])]
theorem m6_ok:mq6.Ok Go.Proofs.Tryz.prog 113 :=
 mN (jb ez Pl j9 ms6 (ik (iU (fU NU iT) (iU (fU Ui iT) (iU (fU Uj iT) (iU (fU Uk iT) jX))))) 1000000 300) (by kernel_rfl)
end Go.aQ.pH
