/- Part Xp10 of the proof of CollectEnds: no condition. -/
import Derived.Test.YtmabojcaklojhaaGreatXs
namespace Go.aI.dI
noncomputable def ms12 (f:Nat):List bX:=eu [] f []
theorem m12_ok:m12.Ok Go.Proofs.Tryz.prog 182 :=
 cC (bM aH Pl bU ms12 (bF bR) 1000000 300) (by kernel_rfl)
end Go.aI.dI
