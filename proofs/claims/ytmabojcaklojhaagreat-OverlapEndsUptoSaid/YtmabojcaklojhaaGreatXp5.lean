/- Part Xp5 of the proof of OverlapEnds: no condition. -/
import Derived.Test.YtmabojcaklojhaaGreatXs
namespace Go.aK.eH
noncomputable def ms6 (f:Nat):List cC:=fp [] f []
theorem m6_ok:m6.Ok Go.Proofs.Tryz.prog 160 :=
 ej (cu aS Pl cI ms6 (cm cH) 1000000 300) (by kernel_rfl)
end Go.aK.eH
