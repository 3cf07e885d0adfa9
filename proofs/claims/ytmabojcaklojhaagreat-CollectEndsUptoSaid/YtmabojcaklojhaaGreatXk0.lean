/- Part Xk0 of the proof of CollectEnds: no condition. -/
import Derived.Test.YtmabojcaklojhaaGreatXj
namespace Go.Rd
open Go.aI Go.RowKit Go.Rt Go.Proofs
set_option maxRecDepth 100000
theorem k134_0:R.iV (.n .a (.n (.n .a .o) .o)) (az Tryz.prog Φ7 aj aU (qN true) (qO true))=true:=by kernel_rfl
theorem k47_7:R.iV (.n .o (.n (.n (.n .o (.n (.n (.n .o (.n (.n (.n .o .a) .a) .a)) .o) .o)) .o) .o)) (az Tryz.prog Φ7 aj aU JV JW)=true:=by kernel_rfl
theorem k45_1:R.iV (.n .o (.n (.n (.n .o (.n (.n (.n (.n .o .a) .a) .a) .a)) .a) .a)) (az Tryz.prog Φ7 aj aU L8 L9)=true:=by kernel_rfl
theorem k143:R.okB (az Tryz.prog Φ7 aj aU (Mv false) (Mw false))=true:=by kernel_rfl
end Go.Rd
