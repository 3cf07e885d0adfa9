/- Part Xk2 of the proof of CollectEnds: no condition. -/
import Derived.Test.YtmabojcaklojhaaGreatXj
namespace Go.Rd
open Go.aI Go.RowKit Go.Rt Go.Proofs
set_option maxRecDepth 100000
theorem k142_2:R.iV (.n .o (.n (.n .o .a) .a)) (az Tryz.prog Φ7 aj aU (qN false) (qO false))=true:=by kernel_rfl
theorem k144:R.okB (az Tryz.prog Φ7 aj aU (Mx false) (My false))=true:=by kernel_rfl
theorem k47_5:R.iV (.n .o (.n (.n (.n .o (.n (.n (.n (.n .o (.n (.n .o (.n .o .a)) .a)) .o) .o) .o)) .o) .o)) (az Tryz.prog Φ7 aj aU JV JW)=true:=by kernel_rfl
theorem k136:R.okB (az Tryz.prog Φ7 aj aU (Mx true) (My true))=true:=by kernel_rfl
theorem k13:R.okB (az Tryz.prog Φ7 aj aU (Fm false) (kC 127))=true:=by kernel_rfl
theorem k61:R.okB (az Tryz.prog Φ7 aj aU Se Sf)=true:=by kernel_rfl
end Go.Rd
