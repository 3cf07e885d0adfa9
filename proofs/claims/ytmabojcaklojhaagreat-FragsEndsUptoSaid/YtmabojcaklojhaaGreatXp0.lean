/- Part Xp0 of the proof of FragsEnds: no condition. -/
import Derived.Test.YtmabojcaklojhaaGreatXs
namespace Go.aQ.pH
noncomputable def Z0 (f:Nat):List eU:=ma [] f []
theorem Uh:m0.Ok Go.Proofs.Tryz.prog 158 :=
 mN (jb ez Pl j9 Z0 (ik jX) 1000000 300) (by kernel_rfl)
end Go.aQ.pH
