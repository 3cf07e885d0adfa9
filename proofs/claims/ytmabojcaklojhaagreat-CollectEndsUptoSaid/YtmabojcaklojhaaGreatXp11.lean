/- Part Xp11 of the proof of CollectEnds: no condition. -/
import Derived.Test.YtmabojcaklojhaaGreatXs
namespace Go.aI.dI
noncomputable def ms13 (f:Nat):List bX:=eu [] f []
theorem m13_ok:m13.Ok Go.Proofs.Tryz.prog 184 :=
 cC (bM aH Pl bU ms13 (bF bR) 1000000 300) (by kernel_rfl)
end Go.aI.dI
