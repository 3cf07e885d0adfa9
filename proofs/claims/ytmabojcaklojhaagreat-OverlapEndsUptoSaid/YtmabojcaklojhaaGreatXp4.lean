/- Part Xp4 of the proof of OverlapEnds: no condition. -/
import Derived.Test.YtmabojcaklojhaaGreatXs
namespace Go.aK.eH
noncomputable def ms5 (f:Nat):List cC:=fp [] f []
theorem m5_ok:m5.Ok Go.Proofs.Tryz.prog 158 :=
 ej (cu aS Pl cI ms5 (cm cH) 1000000 300) (by kernel_rfl)
end Go.aK.eH
