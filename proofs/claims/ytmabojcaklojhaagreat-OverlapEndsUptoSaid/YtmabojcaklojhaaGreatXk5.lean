/- Part Xk5 of the proof of OverlapEnds: no condition. -/
import Derived.Test.YtmabojcaklojhaaGreatXj
namespace Go.Rd
open Go.aK Go.RowKit Go.Rt Go.Proofs
set_option maxRecDepth 100000
theorem VO:R.dL (.n (.n (.n (.n .o (.n (.n .o (.n (.n .o (.n .o (.n (.n .o (.n .a .o)) .o))) .o)) .o)) .o) .o) .o) (al Tryz.prog Φ7 ai aH lB lC)=true:=by kernel_rfl
theorem VP:R.dL (.n (.n (.n .o (.n .o (.n .o (.n .o (.n .o (.n .o .a)))))) .a) .a) (al Tryz.prog Φ7 ai aH LL LM)=true:=by kernel_rfl
theorem Sk:R.dL (.n (.n .o (.n (.n .o (.n (.n (.n .o (.n (.n .o (.n .o (.n (.n .o (.n .a .o)) .o))) .o)) .o) .o)) .o)) .o) (al Tryz.prog Φ7 ai aH lB lC)=true:=by kernel_rfl
theorem Mv:R.dL (.n .o (.n (.n (.n .o (.n (.n (.n .o (.n (.n (.n (.n .o .a) .o) .o) .o)) .o) .o)) .o) .o)) (al Tryz.prog Φ7 ai aH iZ ja)=true:=by kernel_rfl
theorem Sm:R.dL (.n (.n .o (.n (.n .o (.n (.n (.n .o (.n (.n .o (.n (.n .o (.n .o (.n .o (.n .a .o)))) .o)) .o)) .o) .o)) .o)) .o) (al Tryz.prog Φ7 ai aH lB lC)=true:=by kernel_rfl
end Go.Rd
