/- Part Xp18 of the proof of CollectEnds: no condition. -/
import Derived.Test.YtmabojcaklojhaaGreatXs
namespace Go.aI.dI
noncomputable def ms21 (f:Nat):List bX:=eu [] f []
theorem m21_ok:m21.Ok Go.Proofs.Tryz.prog 24 :=
 cC (bM aH Pl bU ms21 (bF bR) 1000000 300) (by kernel_rfl)
end Go.aI.dI
