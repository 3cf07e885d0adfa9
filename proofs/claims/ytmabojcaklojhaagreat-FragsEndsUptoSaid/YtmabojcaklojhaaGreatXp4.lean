/- Part Xp4 of the proof of FragsEnds: no condition. -/
import Derived.Test.YtmabojcaklojhaaGreatXs
namespace Go.aQ.pH
noncomputable def Z4 (f:Nat):List eU:=ma [] f []
theorem Uj:m4.Ok Go.Proofs.Tryz.prog 168 :=
 mN (jb ez Pl j9 Z4 (ik jX) 1000000 300) (by kernel_rfl)
end Go.aQ.pH
