/- Part Xk2 of the proof of OverlapEnds: no condition. -/
import Derived.Test.YtmabojcaklojhaaGreatXj
namespace Go.Rd
open Go.aK Go.RowKit Go.Rt Go.Proofs
set_option maxRecDepth 100000
theorem VI:R.dL (.n .o (.n (.n .o .a) .a)) (al Tryz.prog Φ7 ai aH (sG false) (sH false))=true:=by kernel_rfl
theorem Sc:R.dL (.n .o (.n (.n (.n .o (.n (.n (.n (.n (.n .o (.n (.n .o .a) .o)) .o) .o) .o) .o)) .o) .o)) (al Tryz.prog Φ7 ai aH iZ ja)=true:=by kernel_rfl
theorem Sd:R.dL (.n .o (.n (.n (.n .o (.n (.n (.n (.n (.n (.n (.n .o (.n (.n .a .o) .o)) .o) .o) .o) .o) .o) .o)) .o) .o)) (al Tryz.prog Φ7 ai aH iZ ja)=true:=by kernel_rfl
theorem VJ:R.dL (.n (.n (.n (.n .o (.n (.n .o (.n (.n .o (.n (.n .o (.n .o (.n .a .o))) .o)) .o)) .o)) .o) .o) .o) (al Tryz.prog Φ7 ai aH lB lC)=true:=by kernel_rfl
theorem Se:R.dL (.n (.n .a (.n .a .o)) .o) (al Tryz.prog Φ7 ai aH Md (fM 81))=true:=by kernel_rfl
theorem k33:R.okB (al Tryz.prog Φ7 ai aH (LN false) LO)=true:=by kernel_rfl
end Go.Rd
