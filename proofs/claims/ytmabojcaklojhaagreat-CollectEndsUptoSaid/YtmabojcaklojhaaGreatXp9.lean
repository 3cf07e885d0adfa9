/- Part Xp9 of the proof of CollectEnds: no condition. -/
import Derived.Test.YtmabojcaklojhaaGreatXs
namespace Go.aI.dI
noncomputable def ms11 (f:Nat):List bX:=eu [] f []
theorem m11_ok:m11.Ok Go.Proofs.Tryz.prog 181 :=
 cC (bM aH Pl bU ms11 (bF bR) 1000000 300) (by kernel_rfl)
end Go.aI.dI
