/- Part Xp7 of the proof of CollectEnds: no condition. -/
import Derived.Test.YtmabojcaklojhaaGreatXs
namespace Go.aI.dI
noncomputable def ms8 (f:Nat):List bX:=eu [] f []
theorem m8_ok:m8.Ok Go.Proofs.Tryz.prog 114 :=
 cC (bM aH Pl bU ms8 (bF bR) 1000000 300) (by kernel_rfl)
end Go.aI.dI
namespace Go.aI.dI
noncomputable def ms9 (f:Nat):List bX:=eu [] f []
theorem m9_ok:m9.Ok Go.Proofs.Tryz.prog 115 :=
 cC (bM aH Pl bU ms9 (bF bR) 1000000 300) (by kernel_rfl)
end Go.aI.dI
