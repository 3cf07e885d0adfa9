/- Part Xk7 of the proof of OverlapEnds: no condition. -/
import Derived.Test.YtmabojcaklojhaaGreatXj
namespace Go.Rd
open Go.aK Go.RowKit Go.Rt Go.Proofs
set_option maxRecDepth 100000
theorem Mw:R.dL (.n .o (.n (.n (.n .o (.n (.n (.n .o (.n (.n (.n (.n (.n .a .o) .o) .o) .o) .o)) .o) .o)) .o) .o)) (al Tryz.prog Φ7 ai aH iZ ja)=true:=by kernel_rfl
theorem VS:R.dL (.n .o (.n (.n .o .a) .a)) (al Tryz.prog Φ7 ai aH (sG true) (sH true))=true:=by kernel_rfl
theorem Sq:R.dL (.n .o (.n (.n (.n .o (.n (.n (.n (.n (.n .o (.n .o (.n (.n .a .o) .o))) .o) .o) .o) .o)) .o) .o)) (al Tryz.prog Φ7 ai aH iZ ja)=true:=by kernel_rfl
theorem Mx:R.dL (.n .o (.n (.n (.n .o (.n (.n (.n (.n .o (.n (.n .o (.n (.n .a .o) .o)) .o)) .o) .o) .o)) .o) .o)) (al Tryz.prog Φ7 ai aH iZ ja)=true:=by kernel_rfl
theorem Sr:R.dL (.n (.n .o (.n (.n (.n .o .a) .a) .a)) .a) (al Tryz.prog Φ7 ai aH (mr true) mw)=true:=by kernel_rfl
end Go.Rd
