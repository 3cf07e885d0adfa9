/- Part Xk14 of the proof of OverlapEnds: no condition. -/
import Derived.Test.YtmabojcaklojhaaGreatXj
namespace Go.Rd
open Go.aK Go.RowKit Go.Rt Go.Proofs
set_option maxRecDepth 100000
theorem RY:R.dL (.n (.n .o (.n (.n (.n (.n .o (.n (.n .o (.n (.n .a .o) .o)) .o)) .o) .o) .o)) .o) (al Tryz.prog Φ7 ai aH (mr true) mw)=true:=by kernel_rfl
theorem X5:R.okB (al Tryz.prog Φ7 ai aH Pj Pm)=true:=by kernel_rfl
theorem VE:R.dL (.n (.n (.n (.n .o (.n (.n .o (.n (.n .o (.n .o (.n (.n .o (.n .o .a)) (.n (.n .a .o) .o)))) .o)) .o)) .o) .o) .o) (al Tryz.prog Φ7 ai aH lB lC)=true:=by kernel_rfl
theorem RZ:R.dL (.n .o (.n (.n (.n .o (.n (.n (.n (.n (.n (.n (.n (.n .o .a) .o) .o) .o) .o) .o) .o) .o)) .o) .o)) (al Tryz.prog Φ7 ai aH iZ ja)=true:=by kernel_rfl
theorem R1:R.dL (.n .a .o) (al Tryz.prog Φ7 ai aH EZ (iJ 332))=true:=by kernel_rfl
theorem k87:R.okB (al Tryz.prog Φ7 ai aH (L4 true) (L5 true))=true:=by kernel_rfl
theorem R2:R.dL (.n .o .a) (al Tryz.prog Φ7 ai aH EZ (iJ 332))=true:=by kernel_rfl
theorem k2:R.okB (al Tryz.prog Φ7 ai aH (Ew 0) Ey)=true:=by kernel_rfl
end Go.Rd
