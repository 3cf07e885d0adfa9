/- Part Xk9 of the proof of OverlapEnds: no condition. -/
import Derived.Test.YtmabojcaklojhaaGreatXj
namespace Go.Rd
open Go.aK Go.RowKit Go.Rt Go.Proofs
set_option maxRecDepth 100000
theorem Sw:R.dL (.n (.n .o (.n (.n .o (.n (.n (.n .o (.n (.n .o (.n .o (.n .o (.n .o .a)))) .a)) .a) .a)) .a)) .a) (al Tryz.prog Φ7 ai aH lB lC)=true:=by kernel_rfl
theorem MA:R.dL (.n .o (.n (.n (.n .o (.n (.n (.n (.n .o (.n (.n (.n .o .a) .o) .o)) .o) .o) .o)) .o) .o)) (al Tryz.prog Φ7 ai aH iZ ja)=true:=by kernel_rfl
theorem MB:R.dL (.n .o (.n (.n (.n .o (.n (.n (.n .o (.n (.n (.n .o (.n .o (.n (.n .a .o) .o))) .o) .o)) .o) .o)) .o) .o)) (al Tryz.prog Φ7 ai aH iZ ja)=true:=by kernel_rfl
theorem Sx:R.dL (.n (.n .o (.n (.n (.n (.n .o .a) .o) .o) .o)) .o) (al Tryz.prog Φ7 ai aH (mr false) mw)=true:=by kernel_rfl
theorem MC:R.dL (.n .o (.n (.n (.n .o (.n (.n (.n .o (.n (.n (.n (.n (.n .o .a) .o) .o) .o) .o)) .o) .o)) .o) .o)) (al Tryz.prog Φ7 ai aH iZ ja)=true:=by kernel_rfl
theorem k25:R.okB (al Tryz.prog Φ7 ai aH Uy Uz)=true:=by kernel_rfl
theorem k58:R.okB (al Tryz.prog Φ7 ai aH (LW 0) (cw 99))=true:=by kernel_rfl
end Go.Rd
