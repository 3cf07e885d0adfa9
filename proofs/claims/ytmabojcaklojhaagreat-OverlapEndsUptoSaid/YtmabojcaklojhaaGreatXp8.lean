/- Part Xp8 of the proof of OverlapEnds: no condition. -/
import Derived.Test.YtmabojcaklojhaaGreatXs
namespace Go.aK.eH
noncomputable def ms10 (f:Nat):List cC:=fp [] f []
theorem m10_ok:m10.Ok Go.Proofs.Tryz.prog 11 :=
 ej (cu aS Pl cI ms10 (cm cH) 1000000 300) (by kernel_rfl)
end Go.aK.eH
