/- Part Xp17 of the proof of CollectEnds: no condition. -/
import Derived.Test.YtmabojcaklojhaaGreatXs
import Derived.Test.YtmabojcaklojhaaGreatXp15
import Derived.Test.YtmabojcaklojhaaGreatXp16
namespace Go.aI.dI
noncomputable def ms20 (f:Nat):List bX:=eu [] f [(23,[{ m18 with bE:=[(z 11706),(z 11708),(z 11373),(z 11341),(z 13389),(z 11713),(z 11203),(z 11711)] }]),(120,[{ m19 with bE:=[(z 12542),(z 13358),(z 13386),(z 13322),(z 13346),(z 13762),(z 13314),(z 12540),(z 13692),(z 13324),(z 13332),(z 13456),(z 13328),(z 12544),(z 12541),(z 13373),(z 13389),(z 13763),(z 13379),(z 13367),(z 13455),(z 12543)] }])]
theorem m20_ok:m20.Ok Go.Proofs.Tryz.prog 57 :=
 cC (bM aH Pl bU ms20 (bF (bx (a9 m18_ok bw) (bx (a9 m19_ok bw) bR))) 1000000 300) (by kernel_rfl)
end Go.aI.dI
