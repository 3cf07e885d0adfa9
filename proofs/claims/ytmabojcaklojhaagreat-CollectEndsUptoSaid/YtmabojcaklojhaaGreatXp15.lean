/- Part Xp15 of the proof of CollectEnds: no condition. -/
import Derived.Test.YtmabojcaklojhaaGreatXs
namespace Go.aI.dI
noncomputable def ms18 (f:Nat):List bX:=eu [] f []
theorem m18_ok:m18.Ok Go.Proofs.Tryz.prog 23 :=
 cC (bM aH Pl bU ms18 (bF bR) 1000000 300) (by kernel_rfl)
end Go.aI.dI
