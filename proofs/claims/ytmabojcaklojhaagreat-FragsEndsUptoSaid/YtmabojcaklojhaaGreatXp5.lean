/- Part Xp5 of the proof of FragsEnds: no condition. -/
import Derived.Test.YtmabojcaklojhaaGreatXs
namespace Go.aQ.pH
noncomputable def Z5 (f:Nat):List eU:=ma [] f []
theorem Uk:m5.Ok Go.Proofs.Tryz.prog 172 :=
 mN (jb ez Pl j9 Z5 (ik jX) 1000000 300) (by kernel_rfl)
end Go.aQ.pH
