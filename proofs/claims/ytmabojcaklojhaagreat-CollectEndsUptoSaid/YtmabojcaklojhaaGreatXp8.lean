/- Part Xp8 of the proof of CollectEnds: no condition. -/
import Derived.Test.YtmabojcaklojhaaGreatXs
namespace Go.aI.dI
noncomputable def ms10 (f:Nat):List bX:=eu [] f []
theorem m10_ok:m10.Ok Go.Proofs.Tryz.prog 139 :=
 cC (bM aH Pl bU ms10 (bF bR) 1000000 300) (by kernel_rfl)
end Go.aI.dI
