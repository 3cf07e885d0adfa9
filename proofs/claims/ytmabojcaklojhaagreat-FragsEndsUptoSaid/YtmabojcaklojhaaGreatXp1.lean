/- Part Xp1 of the proof of FragsEnds: no condition. -/
import Derived.Test.YtmabojcaklojhaaGreatXs
import Derived.Test.YtmabojcaklojhaaGreatXp0
namespace Go.aQ.pH
noncomputable def Z1 (f:Nat):List eU:=ma [] f [(158,[{ m0 with br:=[(z 67)] }])]
theorem NT:m1.Ok Go.Proofs.Tryz.prog 112 :=
 mN (jb ez Pl j9 Z1 (ik (iU (fU Uh iT) jX)) 1000000 300) (by kernel_rfl)
end Go.aQ.pH
