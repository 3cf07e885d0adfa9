/- Part Xp0 of the proof of CollectEnds: no condition. -/
import Derived.Test.YtmabojcaklojhaaGreatXs
namespace Go.aI.dI
noncomputable def ms0 (f:Nat):List bX:=eu [] f []
theorem m0_ok:m0.Ok Go.Proofs.Tryz.prog 158 :=
 cC (bM aH Pl bU ms0 (bF bR) 1000000 300) (by kernel_rfl)
end Go.aI.dI
namespace Go.aI.dI
noncomputable def ms1 (f:Nat):List bX:=eu [] f []
theorem m1_ok:m1.Ok Go.Proofs.Tryz.prog 160 :=
 cC (bM aH Pl bU ms1 (bF bR) 1000000 300) (by kernel_rfl)
end Go.aI.dI
