/- Part Xp19 of the proof of CollectEnds: no condition. -/
import Derived.Test.YtmabojcaklojhaaGreatXs
import Derived.Test.YtmabojcaklojhaaGreatXp14
import Derived.Test.YtmabojcaklojhaaGreatXp17
import Derived.Test.YtmabojcaklojhaaGreatXp18
namespace Go.aI.dI
noncomputable def ms22 (f:Nat):List bX:=eu [] f []
theorem m22_ok:m22.Ok Go.Proofs.Tryz.prog 25 :=
 cC (bM aH Pl bU ms22 (bF bR) 1000000 300) (by kernel_rfl)
end Go.aI.dI
namespace Go.aI.dI
noncomputable def ms23 (f:Nat):List bX:=eu [] f [(56,[{ m17 with bE:=[] }]),(57,[{ m20 with bE:=[(z 13388)] }]),(24,[{ m21 with bE:=[(z 13774),(z 11706),(z 11708),(z 13388),(z 11373),(z 11341),(z 11713),(z 11203),(z 13983),(z 11711)] }]),(25,[{ m22 with bE:=[(z 13774),(z 11706),(z 11708),(z 13388),(z 11373),(z 11341),(z 11713),(z 14003),(z 11203),(z 13983),(z 11711)] }])]
theorem Qs:m23.Ok Go.Proofs.Tryz.prog 22 :=
 cC (bM aH Pl bU ms23 (bF (bx (a9 m17_ok bw) (bx (a9 m20_ok bw) (bx (a9 m21_ok bw) (bx (a9 m22_ok bw) bR))))) 1000000 300) (by kernel_rfl)
end Go.aI.dI
