/- Part Xk13 of the proof of OverlapEnds: no condition. -/
import Derived.Test.YtmabojcaklojhaaGreatXj
namespace Go.Rd
open Go.aK Go.RowKit Go.Rt Go.Proofs
set_option maxRecDepth 100000
theorem RT:R.dL (.n (.n .o (.n (.n .o (.n (.n (.n .o (.n (.n .o (.n .o (.n .o (.n (.n .o (.n .a .o)) .o)))) .o)) .o) .o)) .o)) .o) (al Tryz.prog Φ7 ai aH lB lC)=true:=by kernel_rfl
theorem VC:R.dL (.n (.n (.n (.n .o (.n (.n .o (.n (.n .o (.n .o (.n .o (.n (.n .o (.n .a .o)) .o)))) .o)) .o)) .o) .o) .o) (al Tryz.prog Φ7 ai aH lB lC)=true:=by kernel_rfl
theorem RU:R.dL (.n (.n .o (.n (.n (.n .o .a) .a) .a)) .a) (al Tryz.prog Φ7 ai aH (mr false) mw)=true:=by kernel_rfl
theorem RV:R.dL (.n (.n .o (.n (.n (.n (.n (.n .o .a) (.n (.n .a .o) .o)) .o) .o) .o)) .o) (al Tryz.prog Φ7 ai aH (mr true) mw)=true:=by kernel_rfl
theorem RW:R.dL (.n (.n .a (.n (.n (.n (.n (.n .a .o) .o) .o) .o) .o)) .o) (al Tryz.prog Φ7 ai aH (mr true) mw)=true:=by kernel_rfl
theorem RX:R.dL (.n .o (.n .o (.n .o (.n .o (.n (.n .a .o) .o))))) (al Tryz.prog Φ7 ai aH Bm Bn)=true:=by kernel_rfl
theorem VD:R.dL (.n .a (.n (.n (.n .a (.n .a .o)) .o) .o)) (al Tryz.prog Φ7 ai aH (oM false) (oN false))=true:=by kernel_rfl
theorem X4:R.okB (al Tryz.prog Φ7 ai aH Pa (fM 144))=true:=by kernel_rfl
end Go.Rd
