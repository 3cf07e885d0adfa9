/- Part Xp6 of the proof of OverlapEnds: no condition. -/
import Derived.Test.YtmabojcaklojhaaGreatXs
import Derived.Test.YtmabojcaklojhaaGreatXp4
import Derived.Test.YtmabojcaklojhaaGreatXp5
namespace Go.aK.eH
noncomputable def ms7 (f:Nat):List cC:=fp [] f [(158,[{ m5 with aU:=[(z 2596)] }]),(160,[{ m6 with aU:=[(z 2596),(z 2595)] }])]
theorem m7_ok:m7.Ok Go.Proofs.Tryz.prog 112 :=
 ej (cu aS Pl cI ms7 (cm (ct (bE m5_ok cr) (ct (bE m6_ok cr) cH))) 1000000 300) (by kernel_rfl)
end Go.aK.eH
