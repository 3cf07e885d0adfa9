/- Part Xk15 of the proof of OverlapEnds: no condition. -/
import Derived.Test.YtmabojcaklojhaaGreatXj
namespace Go.Rd
open Go.aK Go.RowKit Go.Rt Go.Proofs
set_option maxRecDepth 100000
theorem X6:R.okB (al Tryz.prog Φ7 ai aH OT OU)=true:=by kernel_rfl
theorem R3:R.dL (.n (.n .o (.n (.n .o (.n (.n (.n .o (.n (.n .o (.n .o (.n (.n .o (.n .o .a)) (.n (.n .a .o) .o)))) .o)) .o) .o)) .o)) .o) (al Tryz.prog Φ7 ai aH lB lC)=true:=by kernel_rfl
theorem R4:R.dL (.n .o (.n .o (.n .o .a))) (al Tryz.prog Φ7 ai aH JL (fM 82))=true:=by kernel_rfl
theorem R5:R.dL (.n .o (.n .o (.n .a .o))) (al Tryz.prog Φ7 ai aH JL (fM 82))=true:=by kernel_rfl
theorem VF:R.dL (.n (.n (.n (.n .o (.n (.n .o (.n (.n .o (.n (.n .o (.n .o (.n .o (.n .o .a)))) (.n (.n .a .o) .o))) .o)) .o)) .o) .o) .o) (al Tryz.prog Φ7 ai aH lB lC)=true:=by kernel_rfl
theorem VG:R.dL (.n (.n (.n (.n .o (.n (.n .o (.n (.n .o (.n .o (.n .o (.n (.n .o (.n .o .a)) .o)))) .o)) .o)) .o) .o) .o) (al Tryz.prog Φ7 ai aH lB lC)=true:=by kernel_rfl
theorem R6:R.dL (.n .o (.n (.n (.n .o (.n (.n (.n (.n (.n .o (.n (.n (.n .o .a) .o) .o)) .o) .o) .o) .o)) .o) .o)) (al Tryz.prog Φ7 ai aH iZ ja)=true:=by kernel_rfl
theorem R7:R.dL (.n (.n .o (.n (.n .o (.n (.n (.n .o (.n (.n .o (.n .o (.n .o (.n (.n .o (.n .o .a)) .o)))) .o)) .o) .o)) .o)) .o) (al Tryz.prog Φ7 ai aH lB lC)=true:=by kernel_rfl
theorem R8:R.dL (.n (.n .o (.n (.n .o (.n .o (.n .o .a))) .a)) .a) (al Tryz.prog Φ7 ai aH E0 E3)=true:=by kernel_rfl
end Go.Rd
