/- Part Xp12 of the proof of OverlapEnds: no condition. -/
import Derived.Test.YtmabojcaklojhaaGreatXs
import Derived.Test.YtmabojcaklojhaaGreatXac
namespace Go.aK.eH
noncomputable def ms14 (f:Nat):List cC:=fp [] f []
theorem m14_ok:m14.Ok Go.Proofs.Tryz.prog 78 :=
 xM (cu aS Pl cI ms14 (cm cH) 1000000 300) (z 10479) (z 10489) (by kernel_rfl)
end Go.aK.eH
