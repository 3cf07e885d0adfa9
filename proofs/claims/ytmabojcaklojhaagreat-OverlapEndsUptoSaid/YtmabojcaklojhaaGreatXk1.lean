/- Part Xk1 of the proof of OverlapEnds: no condition. -/
import Derived.Test.YtmabojcaklojhaaGreatXj
namespace Go.Rd
open Go.aK Go.RowKit Go.Rt Go.Proofs
set_option maxRecDepth 100000
theorem X0:R.okB (al Tryz.prog Φ7 ai aH OR OS)=true:=by kernel_rfl
theorem Vy:R.dL (.n .a (.n (.n .a .o) .o)) (al Tryz.prog Φ7 ai aH (sG false) (sH false))=true:=by kernel_rfl
theorem RK:R.dL (.n .o (.n .o (.n .o (.n .o (.n (.n .o .a) .a))))) (al Tryz.prog Φ7 ai aH Bq Br)=true:=by kernel_rfl
theorem Vz:R.dL (.n (.n (.n (.n .a (.n (.n .a (.n (.n .a (.n (.n .a (.n .a .o)) .o)) .o)) .o)) .o) .o) .o) (al Tryz.prog Φ7 ai aH lB lC)=true:=by kernel_rfl
theorem X1:R.okB (al Tryz.prog Φ7 ai aH Pf Pg)=true:=by kernel_rfl
end Go.Rd
