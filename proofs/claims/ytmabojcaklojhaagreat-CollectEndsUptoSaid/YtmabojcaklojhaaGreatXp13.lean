/- Part Xp13 of the proof of CollectEnds: no condition. -/
import Derived.Test.YtmabojcaklojhaaGreatXs
import Derived.Test.YtmabojcaklojhaaGreatXp8
import Derived.Test.YtmabojcaklojhaaGreatXp9
import Derived.Test.YtmabojcaklojhaaGreatXp10
import Derived.Test.YtmabojcaklojhaaGreatXp11
import Derived.Test.YtmabojcaklojhaaGreatXp12
namespace Go.aI.dI
noncomputable def ms15 (f:Nat):List bX:=eu [] f [(139,[{ m10 with bE:=[(z 11761)] }]),(181,[{ m11 with bE:=[(z 11761)] }]),(182,[{ m12 with bE:=[(z 11761)] }]),(184,[{ m13 with bE:=[(z 11761)] }]),(185,[{ m14 with bE:=[(z 11761)] }])]
theorem m15_ok:m15.Ok Go.Proofs.Tryz.prog 116 :=
 cC (bM aH Pl bU ms15 (bF (bx (a9 m10_ok bw) (bx (a9 m11_ok bw) (bx (a9 m12_ok bw) (bx (a9 m13_ok bw) (bx (a9 m14_ok bw) bR)))))) 1000000 300) (by kernel_rfl)
end Go.aI.dI
