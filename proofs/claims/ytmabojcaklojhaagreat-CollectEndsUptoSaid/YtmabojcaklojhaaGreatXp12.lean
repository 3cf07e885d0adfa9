/- Part Xp12 of the proof of CollectEnds: no condition. -/
import Derived.Test.YtmabojcaklojhaaGreatXs
namespace Go.aI.dI
noncomputable def ms14 (f:Nat):List bX:=eu [] f []
theorem m14_ok:m14.Ok Go.Proofs.Tryz.prog 185 :=
 cC (bM aH Pl bU ms14 (bF bR) 1000000 300) (by kernel_rfl)
end Go.aI.dI
