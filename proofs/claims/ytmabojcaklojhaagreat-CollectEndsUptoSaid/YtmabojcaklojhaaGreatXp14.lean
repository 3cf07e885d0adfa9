/- Part Xp14 of the proof of CollectEnds: no condition. -/
import Derived.Test.YtmabojcaklojhaaGreatXs
import Derived.Test.YtmabojcaklojhaaGreatXp1
import Derived.Test.YtmabojcaklojhaaGreatXp6
import Derived.Test.YtmabojcaklojhaaGreatXp7
import Derived.Test.YtmabojcaklojhaaGreatXp13
namespace Go.aI.dI
noncomputable def ms16 (f:Nat):List bX:=eu [] f []
theorem m16_ok:m16.Ok Go.Proofs.Tryz.prog 10 :=
 cC (bM aH Pl bU ms16 (bF bR) 1000000 300) (by kernel_rfl)
end Go.aI.dI
namespace Go.aI.dI
noncomputable def ms17 (f:Nat):List bX:=eu [] f [(112,[{ m2 with bE:=[(z 0),(z 1)] }]),(113,[{ m7 with bE:=[(z 0),(z 1),(z 5083)] }]),(114,[{ m8 with bE:=[(z 0),(z 1),(z 5083)] }]),(115,[{ m9 with bE:=[(z 10542),(z 0),(z 10541),(z 1),(z 5083)] }]),(116,[{ m15 with bE:=[(z 10542),(z 0),(z 10541),(z 1),(z 5083)] }]),(10,[{ m16 with bE:=[(z 10542),(z 11706),(z 11708),(z 0),(z 11373),(z 10541),(z 11341),(z 12537),(z 11713),(z 1),(z 5083),(z 11203),(z 11711)] }])]
theorem m17_ok:m17.Ok Go.Proofs.Tryz.prog 56 :=
 cC (bM aH Pl bU ms17 (bF (bx (a9 m2_ok bw) (bx (a9 m7_ok bw) (bx (a9 m8_ok bw) (bx (a9 m9_ok bw) (bx (a9 m15_ok bw) (bx (a9 m16_ok bw) bR))))))) 1000000 300) (by kernel_rfl)
end Go.aI.dI
