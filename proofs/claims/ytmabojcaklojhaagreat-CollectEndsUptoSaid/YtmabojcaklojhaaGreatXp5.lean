/- Part Xp5 of the proof of CollectEnds: no condition. -/
import Derived.Test.YtmabojcaklojhaaGreatXs
namespace Go.aI.dI
noncomputable def ms6 (f:Nat):List bX:=eu [] f []
theorem m6_ok:m6.Ok Go.Proofs.Tryz.prog 172 :=
 cC (bM aH Pl bU ms6 (bF bR) 1000000 300) (by kernel_rfl)
end Go.aI.dI
