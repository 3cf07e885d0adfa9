/- Part Xp3 of the proof of FragsEnds: no condition. -/
import Derived.Test.YtmabojcaklojhaaGreatXs
namespace Go.aQ.pH
noncomputable def Z3 (f:Nat):List eU:=ma [] f []
theorem Ui:m3.Ok Go.Proofs.Tryz.prog 167 :=
 mN (jb ez Pl j9 Z3 (ik jX) 1000000 300) (by kernel_rfl)
end Go.aQ.pH
