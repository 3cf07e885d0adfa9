/- Part Xk8 of the proof of OverlapEnds: no condition. -/
import Derived.Test.YtmabojcaklojhaaGreatXj
namespace Go.Rd
open Go.aK Go.RowKit Go.Rt Go.Proofs
set_option maxRecDepth 100000
theorem Ss:R.dL (.n .o (.n .o (.n .o (.n .o (.n (.n .o .a) .a))))) (al Tryz.prog Φ7 ai aH Bm Bn)=true:=by kernel_rfl
theorem VT:R.dL (.n (.n (.n (.n .o (.n (.n .o (.n (.n .o (.n .o (.n .o (.n .o .a)))) .a)) .a)) .a) (.n (.n .a (.n (.n (.n .a (.n (.n .a (.n (.n .a .o) .o)) .o)) .o) .o)) .o)) .o) (al Tryz.prog Φ7 ai aH lB lC)=true:=by kernel_rfl
theorem My:R.dL (.n .o (.n (.n (.n .o (.n (.n (.n (.n .o (.n (.n .o (.n .o .a)) .a)) .o) .o) .o)) .o) .o)) (al Tryz.prog Φ7 ai aH iZ ja)=true:=by kernel_rfl
theorem Mz:R.dL (.n .o (.n (.n (.n .o (.n (.n (.n .o (.n (.n (.n .o (.n (.n .o .a) .o)) .o) .o)) .o) .o)) .o) .o)) (al Tryz.prog Φ7 ai aH iZ ja)=true:=by kernel_rfl
theorem Sv:R.dL (.n (.n .a (.n (.n (.n (.n .a .o) .o) .o) .o)) .o) (al Tryz.prog Φ7 ai aH (mr false) mw)=true:=by kernel_rfl
theorem Zo:R.okB (al Tryz.prog Φ7 ai aH N2 N3)=true:=by kernel_rfl
end Go.Rd
