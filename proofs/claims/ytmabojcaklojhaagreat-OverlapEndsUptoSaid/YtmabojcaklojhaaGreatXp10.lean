/- Part Xp10 of the proof of OverlapEnds: no condition. -/
import Derived.Test.YtmabojcaklojhaaGreatXs
namespace Go.aK.eH
noncomputable def ms12 (f:Nat):List cC:=fp [] f []
theorem m12_ok:m12.Ok Go.Proofs.Tryz.prog 139 :=
 ej (cu aS Pl cI ms12 (cm cH) 1000000 300) (by kernel_rfl)
end Go.aK.eH
