/- Part Xk0 of the proof of OverlapEnds: no condition. -/
import Derived.Test.YtmabojcaklojhaaGreatXj
namespace Go.Rd
open Go.aK Go.RowKit Go.Rt Go.Proofs
set_option maxRecDepth 100000
theorem RH:R.dL (.n .o (.n (.n (.n .o (.n (.n (.n (.n (.n (.n (.n (.n .a .o) .o) .o) .o) .o) .o) .o) .o)) .o) .o)) (al Tryz.prog Φ7 ai aH iZ ja)=true:=by kernel_rfl
theorem RI:R.dL (.n .o (.n (.n (.n .o (.n (.n (.n (.n (.n .o (.n (.n (.n .a .o) .o) .o)) .o) .o) .o) .o)) .o) .o)) (al Tryz.prog Φ7 ai aH iZ ja)=true:=by kernel_rfl
theorem RJ:R.dL (.n (.n .o (.n .o .a)) .a) (al Tryz.prog Φ7 ai aH Md (fM 81))=true:=by kernel_rfl
theorem Mp:R.dL (.n .o (.n (.n (.n .o (.n (.n (.n .o (.n (.n (.n .o (.n (.n .a .o) .o)) .o) .o)) .o) .o)) .o) .o)) (al Tryz.prog Φ7 ai aH iZ ja)=true:=by kernel_rfl
theorem XZ:R.okB (al Tryz.prog Φ7 ai aH OY OZ)=true:=by kernel_rfl
end Go.Rd
