/- Part Xp7 of the proof of OverlapEnds: no condition. -/
import Derived.Test.YtmabojcaklojhaaGreatXs
namespace Go.aK.eH
noncomputable def ms9 (f:Nat):List cC:=fp [] f []
theorem m9_ok:m9.Ok Go.Proofs.Tryz.prog 10 :=
 ej (cu aS Pl cI ms9 (cm cH) 1000000 300) (by kernel_rfl)
end Go.aK.eH
