/- Part Xp2 of the proof of FragsEnds: no condition. -/
import Derived.Test.YtmabojcaklojhaaGreatXs
namespace Go.aQ.pH
noncomputable def Z2 (f:Nat):List eU:=ma [] f []
theorem NU:m2.Ok Go.Proofs.Tryz.prog 164 :=
 mN (jb ez Pl j9 Z2 (ik jX) 1000000 300) (by kernel_rfl)
end Go.aQ.pH
