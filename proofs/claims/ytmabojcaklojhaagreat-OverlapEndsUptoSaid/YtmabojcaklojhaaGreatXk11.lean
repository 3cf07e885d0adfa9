/- Part Xk11 of the proof of OverlapEnds: no condition. -/
import Derived.Test.YtmabojcaklojhaaGreatXj
namespace Go.Rd
open Go.aK Go.RowKit Go.Rt Go.Proofs
set_option maxRecDepth 100000
theorem RN:R.dL (.n .o (.n (.n (.n .o (.n (.n (.n (.n (.n (.n .o (.n (.n .o .a) .a)) .o) .o) .o) .o) .o)) .o) .o)) (al Tryz.prog Φ7 ai aH iZ ja)=true:=by kernel_rfl
theorem k95:R.okB (al Tryz.prog Φ7 ai aH (L4 false) (L5 false))=true:=by kernel_rfl
theorem Mq:R.dL (.n .o (.n (.n (.n .o (.n (.n .o .a) .a)) .a) .a)) (al Tryz.prog Φ7 ai aH iZ ja)=true:=by kernel_rfl
theorem Mr:R.dL (.n .o (.n (.n (.n .o (.n (.n (.n (.n .o (.n (.n .o (.n (.n .o .a) .o)) .o)) .o) .o) .o)) .o) .o)) (al Tryz.prog Φ7 ai aH iZ ja)=true:=by kernel_rfl
theorem Ms:R.dL (.n .o (.n (.n (.n .o (.n (.n (.n (.n (.n .o (.n .o (.n (.n .o .a) .a))) .o) .o) .o) .o)) .o) .o)) (al Tryz.prog Φ7 ai aH iZ ja)=true:=by kernel_rfl
theorem RO:R.dL (.n .a (.n .a (.n .a (.n .a .o)))) (al Tryz.prog Φ7 ai aH Bq Br)=true:=by kernel_rfl
end Go.Rd
