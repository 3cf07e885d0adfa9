/- Part Xp6 of the proof of CollectEnds: no condition. -/
import Derived.Test.YtmabojcaklojhaaGreatXs
import Derived.Test.YtmabojcaklojhaaGreatXp2
import Derived.Test.YtmabojcaklojhaaGreatXp3
import Derived.Test.YtmabojcaklojhaaGreatXp4
import Derived.Test.YtmabojcaklojhaaGreatXp5
namespace Go.aI.dI
noncomputable def ms7 (f:Nat):List bX:=eu [] f [(164,[{ m3 with bE:=[(z 6254),(z 5882),(z 5914),(z 6252),(z 5744),(z 6249),(z 6247)] }]),(167,[{ m4 with bE:=[] }]),(168,[{ m5 with bE:=[] }]),(172,[{ m6 with bE:=[] }])]
theorem m7_ok:m7.Ok Go.Proofs.Tryz.prog 113 :=
 cC (bM aH Pl bU ms7 (bF (bx (a9 m3_ok bw) (bx (a9 m4_ok bw) (bx (a9 m5_ok bw) (bx (a9 m6_ok bw) bR))))) 1000000 300) (by kernel_rfl)
end Go.aI.dI
