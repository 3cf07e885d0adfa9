/- Part Xk12 of the proof of OverlapEnds: no condition. -/
import Derived.Test.YtmabojcaklojhaaGreatXj
namespace Go.Rd
open Go.aK Go.RowKit Go.Rt Go.Proofs
set_option maxRecDepth 100000
theorem RP:R.dL (.n (.n .o (.n (.n .o (.n .o (.n (.n (.n (.n .o (.n .o (.n .o (.n (.n (.n (.n .o (.n .o (.n (.n .o (.n (.n .o (.n .o (.n .o (.n .o .a)))) .a)) .a))) .a) .a) .a)))) .a) .a) .a))) .a)) .a) (al Tryz.prog Φ7 ai aH Bo Bp)=true:=by kernel_rfl
theorem VB:R.dL (.n (.n (.n (.n .o (.n (.n .o (.n (.n .o (.n (.n .o (.n .o (.n .o (.n .a .o)))) .o)) .o)) .o)) .o) .o) .o) (al Tryz.prog Φ7 ai aH lB lC)=true:=by kernel_rfl
theorem Mt:R.dL (.n .o (.n (.n (.n .o (.n (.n (.n .o (.n (.n (.n .o (.n .o (.n (.n .o .a) .a))) .a) .a)) .o) .o)) .o) .o)) (al Tryz.prog Φ7 ai aH iZ ja)=true:=by kernel_rfl
theorem RQ:R.dL (.n .o (.n .o (.n .o (.n .o (.n (.n .a .o) .o))))) (al Tryz.prog Φ7 ai aH Bq Br)=true:=by kernel_rfl
theorem RR:R.dL (.n .a (.n .a (.n .a (.n .a .o)))) (al Tryz.prog Φ7 ai aH Bm Bn)=true:=by kernel_rfl
theorem RS:R.dL (.n (.n .o (.n (.n (.n (.n .o (.n (.n .o (.n (.n .o .a) .a)) .a)) .o) .o) .o)) .o) (al Tryz.prog Φ7 ai aH (mr true) mw)=true:=by kernel_rfl
theorem X3:R.okB (al Tryz.prog Φ7 ai aH Vk Vl)=true:=by kernel_rfl
theorem k54:R.okB (al Tryz.prog Φ7 ai aH (EN 0) (qL 152 4))=true:=by kernel_rfl
end Go.Rd
