/- Part Xk6 of the proof of OverlapEnds: no condition. -/
import Derived.Test.YtmabojcaklojhaaGreatXj
namespace Go.Rd
open Go.aK Go.RowKit Go.Rt Go.Proofs
set_option maxRecDepth 100000
theorem VQ:R.dL (.n (.n .o (.n (.n .o (.n (.n (.n .o (.n (.n .o (.n (.n .o (.n .a .o)) .o)) .o)) .o) .o)) .o)) .o) (al Tryz.prog Φ7 ai aH lB lC)=true:=by kernel_rfl
theorem Sn:R.dL (.n .a (.n .a .o)) (al Tryz.prog Φ7 ai aH JL (fM 82))=true:=by kernel_rfl
theorem VR:R.dL (.n .o (.n (.n (.n .o (.n .o .a)) .o) .o)) (al Tryz.prog Φ7 ai aH (oM false) (oN false))=true:=by kernel_rfl
theorem So:R.dL (.n .o (.n (.n (.n .o (.n (.n (.n (.n (.n (.n (.n .o (.n (.n .o .a) .a)) (.n (.n .a .o) .o)) .o) .o) .o) .o) .o)) .o) .o)) (al Tryz.prog Φ7 ai aH iZ ja)=true:=by kernel_rfl
theorem Zm:R.okB (al Tryz.prog Φ7 ai aH Og Oh)=true:=by kernel_rfl
end Go.Rd
