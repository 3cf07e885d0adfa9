/- Part Xp0 of the proof of OverlapEnds: no condition. -/
import Derived.Test.YtmabojcaklojhaaGreatXs
namespace Go.aK.eH
noncomputable def ms0 (f:Nat):List cC:=fp [] f []
theorem m0_ok:m0.Ok Go.Proofs.Tryz.prog 114 :=
 ej (cu aS Pl cI ms0 (cm cH) 1000000 300) (by kernel_rfl)
end Go.aK.eH
namespace Go.aK.eH
noncomputable def ms1 (f:Nat):List cC:=fp [] f []
theorem m1_ok:m1.Ok Go.Proofs.Tryz.prog 31 :=
 ej (cu aS Pl cI ms1 (cm cH) 1000000 300) (by kernel_rfl)
end Go.aK.eH
