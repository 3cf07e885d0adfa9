/- Part Xk1 of the proof of CollectEnds: no condition. -/
import Derived.Test.YtmabojcaklojhaaGreatXj
namespace Go.Rd
open Go.aI Go.RowKit Go.Rt Go.Proofs
set_option maxRecDepth 100000
theorem k47_0:R.iV (.n .a (.n (.n (.n .a (.n (.n (.n (.n (.n .a .o) .o) .o) .o) .o)) .o) .o)) (az Tryz.prog Φ7 aj aU JV JW)=true:=by kernel_rfl
theorem k47_3:R.iV (.n .o (.n (.n (.n .o (.n (.n (.n (.n .o (.n (.n .a .o) .o)) .o) .o) .o)) .o) .o)) (az Tryz.prog Φ7 aj aU JV JW)=true:=by kernel_rfl
theorem k142_1:R.iV (.n .o (.n (.n (.n .o .a) .o) .o)) (az Tryz.prog Φ7 aj aU (qN false) (qO false))=true:=by kernel_rfl
theorem k77_1:R.iV (.n (.n (.n .o (.n .o (.n .o (.n .o (.n .o (.n .o .a)))))) .a) .a) (az Tryz.prog Φ7 aj aU Mg Mi)=true:=by kernel_rfl
end Go.Rd
