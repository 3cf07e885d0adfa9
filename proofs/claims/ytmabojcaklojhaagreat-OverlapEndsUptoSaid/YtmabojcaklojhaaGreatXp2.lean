/- Part Xp2 of the proof of OverlapEnds: no condition. -/
import Derived.Test.YtmabojcaklojhaaGreatXs
namespace Go.aK.eH
noncomputable def ms3 (f:Nat):List cC:=fp [] f []
theorem m3_ok:m3.Ok Go.Proofs.Tryz.prog 160 :=
 ej (cu aS Pl cI ms3 (cm cH) 1000000 300) (by kernel_rfl)
end Go.aK.eH
