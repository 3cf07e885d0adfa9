/- Part Xp16 of the proof of OverlapEnds: no condition. -/
import Derived.Test.YtmabojcaklojhaaGreatXs
import Derived.Test.YtmabojcaklojhaaGreatXp15
import Derived.Test.YtmabojcaklojhaaGreatXp11
import Derived.Test.YtmabojcaklojhaaGreatXp14
namespace Go.aK.eH
noncomputable def ms18 (f:Nat):List cC:=fp [] f [(78,[{ m17 with aU:=[] }])]
theorem m18_ok:m18.Ok Go.Proofs.Tryz.prog 32 :=
 ej (cu aS Pl cI ms18 (cm (ct (bE m17_ok cr) cH)) 1000000 300) (by kernel_rfl)
end Go.aK.eH
namespace Go.aK.eH
noncomputable def ms19 (f:Nat):List cC:=fp [] f [(71,[{ m13 with aU:=[] }]),(34,[{ m16 with aU:=[(z 10110),(z 10054),(z 10056),(z 10061),(z 9721),(z 9689),(z 10059),(z 9551)] }]),(32,[{ m18 with aU:=[(z 10110),(z 10054),(z 10056),(z 10061),(z 9721),(z 9689),(z 10059),(z 9551)] }])]
theorem m19_ok:m19.Ok Go.Proofs.Tryz.prog 29 :=
 ej (cu aS Pl cI ms19 (cm (ct (bE m13_ok cr) (ct (bE m16_ok cr) (ct (bE m18_ok cr) cH)))) 1000000 300) (by kernel_rfl)
end Go.aK.eH
