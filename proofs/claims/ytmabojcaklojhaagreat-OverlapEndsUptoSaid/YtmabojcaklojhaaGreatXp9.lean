/- Part Xp9 of the proof of OverlapEnds: no condition. -/
import Derived.Test.YtmabojcaklojhaaGreatXs
namespace Go.aK.eH
noncomputable def ms11 (f:Nat):List cC:=fp [] f []
theorem m11_ok:m11.Ok Go.Proofs.Tryz.prog 115 :=
 ej (cu aS Pl cI ms11 (cm cH) 1000000 300) (by kernel_rfl)
end Go.aK.eH
