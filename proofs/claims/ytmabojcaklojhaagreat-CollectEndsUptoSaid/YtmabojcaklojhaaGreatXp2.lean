/- Part Xp2 of the proof of CollectEnds: no condition. -/
import Derived.Test.YtmabojcaklojhaaGreatXs
namespace Go.aI.dI
noncomputable def ms3 (f:Nat):List bX:=eu [] f []
theorem m3_ok:m3.Ok Go.Proofs.Tryz.prog 164 :=
 cC (bM aH Pl bU ms3 (bF bR) 1000000 300) (by kernel_rfl)
end Go.aI.dI
