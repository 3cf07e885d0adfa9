/- Part Xp3 of the proof of OverlapEnds: no condition. -/
import Derived.Test.YtmabojcaklojhaaGreatXs
import Derived.Test.YtmabojcaklojhaaGreatXp1
import Derived.Test.YtmabojcaklojhaaGreatXp2
namespace Go.aK.eH
noncomputable def ms4 (f:Nat):List cC:=fp [] f [(158,[{ m2 with aU:=[(z 804)] }]),(160,[{ m3 with aU:=[(z 804)] }])]
theorem m4_ok:m4.Ok Go.Proofs.Tryz.prog 112 :=
 ej (cu aS Pl cI ms4 (cm (ct (bE m2_ok cr) (ct (bE m3_ok cr) cH))) 1000000 300) (by kernel_rfl)
end Go.aK.eH
