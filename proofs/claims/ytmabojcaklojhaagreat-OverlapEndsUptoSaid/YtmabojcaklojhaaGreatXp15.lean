/- Part Xp15 of the proof of OverlapEnds: no condition. -/
import Derived.Test.YtmabojcaklojhaaGreatXs
import Derived.Test.YtmabojcaklojhaaGreatXac
namespace Go.aK.eH
noncomputable def ms17 (f:Nat):List cC:=fp [] f []
theorem m17_ok:m17.Ok Go.Proofs.Tryz.prog 78 :=
 xM (cu aS Pl cI ms17 (cm cH) 1000000 300) (z 11666) (z 11676) (by kernel_rfl)
end Go.aK.eH
