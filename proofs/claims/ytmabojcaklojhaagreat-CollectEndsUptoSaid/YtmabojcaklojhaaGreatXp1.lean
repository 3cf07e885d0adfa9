/- Part Xp1 of the proof of CollectEnds: no condition. -/
import Derived.Test.YtmabojcaklojhaaGreatXs
import Derived.Test.YtmabojcaklojhaaGreatXp0
namespace Go.aI.dI
noncomputable def ms2 (f:Nat):List bX:=eu [] f [(158,[{ m0 with bE:=[(z 4)] }]),(160,[{ m1 with bE:=[(z 4)] }])]
theorem m2_ok:m2.Ok Go.Proofs.Tryz.prog 112 :=
 cC (bM aH Pl bU ms2 (bF (bx (a9 m0_ok bw) (bx (a9 m1_ok bw) bR))) 1000000 300) (by kernel_rfl)
end Go.aI.dI
