/- Part Xp16 of the proof of CollectEnds: no condition. -/
import Derived.Test.YtmabojcaklojhaaGreatXs
namespace Go.aI.dI
noncomputable def ms19 (f:Nat):List bX:=eu [] f []
theorem m19_ok:m19.Ok Go.Proofs.Tryz.prog 120 :=
 cC (bM aH Pl bU ms19 (bF bR) 1000000 300) (by kernel_rfl)
end Go.aI.dI
