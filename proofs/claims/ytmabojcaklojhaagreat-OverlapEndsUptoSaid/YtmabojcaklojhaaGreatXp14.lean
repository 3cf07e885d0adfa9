/- Part Xp14 of the proof of OverlapEnds: no condition. -/
import Derived.Test.YtmabojcaklojhaaGreatXs
import Derived.Test.YtmabojcaklojhaaGreatXp12
import Derived.Test.YtmabojcaklojhaaGreatXp13
namespace Go.aK.eH
noncomputable def ms16 (f:Nat):List cC:=fp [] f [(78,[{ m14 with aU:=[(z 10376),(z 10375)] }]),(79,[{ m15 with aU:=[(z 10920),(z 10376),(z 10375)] }])]
theorem m16_ok:m16.Ok Go.Proofs.Tryz.prog 34 :=
 ej (cu aS Pl cI ms16 (cm (ct (bE m14_ok cr) (ct (bE m15_ok cr) cH))) 1000000 300) (by kernel_rfl)
end Go.aK.eH
