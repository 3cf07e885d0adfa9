/- Part Xp3 of the proof of CollectEnds: no condition. -/
import Derived.Test.YtmabojcaklojhaaGreatXs
namespace Go.aI.dI
noncomputable def ms4 (f:Nat):List bX:=eu [] f []
theorem m4_ok:m4.Ok Go.Proofs.Tryz.prog 167 :=
 cC (bM aH Pl bU ms4 (bF bR) 1000000 300) (by kernel_rfl)
end Go.aI.dI
