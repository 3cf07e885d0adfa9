/- Part Xk10 of the proof of OverlapEnds: no condition. -/
import Derived.Test.YtmabojcaklojhaaGreatXj
namespace Go.Rd
open Go.aK Go.RowKit Go.Rt Go.Proofs
set_option maxRecDepth 100000
theorem k16:R.okB (al Tryz.prog Φ7 ai aH Us Ut)=true:=by kernel_rfl
theorem k96:R.okB (al Tryz.prog Φ7 ai aH (L6 false) (L7 false))=true:=by kernel_rfl
theorem RL:R.dL (.n (.n .a (.n (.n .a (.n .a (.n (.n (.n (.n .a (.n .a (.n .a (.n (.n (.n (.n .a (.n .a (.n (.n .a (.n (.n .a (.n .a (.n .a (.n (.n (.n (.n .a (.n .a (.n .a .o))) .o) .o) .o)))) .o)) .o))) .o) .o) .o)))) .o) .o) .o))) .o)) .o) (al Tryz.prog Φ7 ai aH Bo Bp)=true:=by kernel_rfl
theorem VA:R.dL (.n .o (.n (.n .o .a) .a)) (al Tryz.prog Φ7 ai aH (oM true) (oN true))=true:=by kernel_rfl
theorem k88:R.okB (al Tryz.prog Φ7 ai aH (L6 true) (L7 true))=true:=by kernel_rfl
theorem RM:R.dL (.n (.n .o (.n (.n .o (.n (.n (.n .o (.n (.n .o (.n (.n .o (.n .o (.n .o (.n .o .a)))) (.n (.n .a .o) .o))) .o)) .o) .o)) .o)) .o) (al Tryz.prog Φ7 ai aH lB lC)=true:=by kernel_rfl
theorem X2:R.okB (al Tryz.prog Φ7 ai aH UZ (cw 19))=true:=by kernel_rfl
end Go.Rd
