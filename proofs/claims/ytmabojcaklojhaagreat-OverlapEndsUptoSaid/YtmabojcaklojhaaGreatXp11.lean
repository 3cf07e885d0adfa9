/- Part Xp11 of the proof of OverlapEnds: no condition. -/
import Derived.Test.YtmabojcaklojhaaGreatXs
import Derived.Test.YtmabojcaklojhaaGreatXp3
import Derived.Test.YtmabojcaklojhaaGreatXp6
import Derived.Test.YtmabojcaklojhaaGreatXp0
import Derived.Test.YtmabojcaklojhaaGreatXp7
import Derived.Test.YtmabojcaklojhaaGreatXp8
import Derived.Test.YtmabojcaklojhaaGreatXp9
import Derived.Test.YtmabojcaklojhaaGreatXp10
namespace Go.aK.eH
noncomputable def ms8 (f:Nat):List cC:=fp [] f [(112,[{ m4 with aU:=[] },{ m7 with aU:=[(z 2594),(z 2593)] }])]
theorem m8_ok:m8.Ok Go.Proofs.Tryz.prog 138 :=
 ej (cu aS Pl cI ms8 (cm (ct (bE m4_ok (bE m7_ok cr)) cH)) 1000000 300) (by kernel_rfl)
end Go.aK.eH
namespace Go.aK.eH
noncomputable def ms13 (f:Nat):List cC:=fp [] f [(114,[{ m0 with aU:=[] }]),(31,[{ m1 with aU:=[(z 798),(z 799)] }]),(138,[{ m8 with aU:=[(z 798),(z 799)] }]),(10,[{ m9 with aU:=[(z 798),(z 799)] }]),(11,[{ m10 with aU:=[(z 798),(z 799)] }]),(115,[{ m11 with aU:=[(z 7870),(z 798),(z 8686),(z 8654),(z 8714),(z 8674),(z 8652),(z 8660),(z 8752),(z 7872),(z 8701),(z 7869),(z 8905),(z 7873),(z 8707),(z 8695),(z 8751),(z 799),(z 7871)] }]),(139,[{ m12 with aU:=[(z 7870),(z 798),(z 8686),(z 8654),(z 8714),(z 8674),(z 8652),(z 8660),(z 8752),(z 7872),(z 8701),(z 7869),(z 8905),(z 7873),(z 8707),(z 8695),(z 8751),(z 799),(z 7871)] }])]
theorem m13_ok:m13.Ok Go.Proofs.Tryz.prog 71 :=
 ej (cu aS Pl cI ms13 (cm (ct (bE m0_ok cr) (ct (bE m1_ok cr) (ct (bE m8_ok cr) (ct (bE m9_ok cr) (ct (bE m10_ok cr) (ct (bE m11_ok cr) (ct (bE m12_ok cr) cH)))))))) 1000000 300) (by kernel_rfl)
end Go.aK.eH
