/- Part Xp4 of the proof of CollectEnds: no condition. -/
import Derived.Test.YtmabojcaklojhaaGreatXs
namespace Go.aI.dI
noncomputable def ms5 (f:Nat):List bX:=eu [] f []
theorem m5_ok:m5.Ok Go.Proofs.Tryz.prog 168 :=
 cC (bM aH Pl bU ms5 (bF bR) 1000000 300) (by kernel_rfl)
end Go.aI.dI
