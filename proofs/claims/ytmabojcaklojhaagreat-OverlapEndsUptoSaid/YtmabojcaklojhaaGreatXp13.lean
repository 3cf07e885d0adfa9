/- Part Xp13 of the proof of OverlapEnds: no condition. -/
import Derived.Test.YtmabojcaklojhaaGreatXs
import Derived.Test.YtmabojcaklojhaaGreatXac
namespace Go.aK.eH
noncomputable def ms15 (f:Nat):List cC:=fp [] f []
theorem m15_ok:m15.Ok Go.Proofs.Tryz.prog 79 :=
 xM (cu aS Pl cI ms15 (cm cH) 1000000 300) (z 10953) (z 10963) (by kernel_rfl)
end Go.aK.eH
