/- Part Xk3 of the proof of OverlapEnds: no condition. -/
import Derived.Test.YtmabojcaklojhaaGreatXj
namespace Go.Rd
open Go.aK Go.RowKit Go.Rt Go.Proofs
set_option maxRecDepth 100000
theorem Sf:R.dL (.n (.n .o (.n (.n .o (.n (.n (.n .o (.n (.n .o (.n (.n .o (.n .o (.n .a .o))) .o)) .o)) .o) .o)) .o)) .o) (al Tryz.prog Φ7 ai aH lB lC)=true:=by kernel_rfl
theorem Mu:R.dL (.n .o (.n (.n (.n .o (.n (.n (.n (.n .o (.n (.n (.n .a .o) .o) .o)) .o) .o) .o)) .o) .o)) (al Tryz.prog Φ7 ai aH iZ ja)=true:=by kernel_rfl
theorem Sh:R.dL (.n (.n .a (.n (.n .a (.n .a (.n .a .o))) .o)) .o) (al Tryz.prog Φ7 ai aH E0 E3)=true:=by kernel_rfl
theorem Si:R.dL (.n (.n .o (.n (.n .o (.n .o (.n (.n (.n (.n .o (.n .o (.n .o (.n (.n (.n (.n .o (.n .o (.n (.n .o (.n (.n .o (.n .o (.n .o (.n (.n (.n (.n .o (.n .o (.n .o .a))) .a) .a) .o)))) .o)) .o))) .o) .o) .o)))) .o) .o) .o))) .o)) .o) (al Tryz.prog Φ7 ai aH Bo Bp)=true:=by kernel_rfl
theorem Zk:R.okB (al Tryz.prog Φ7 ai aH U7 U8)=true:=by kernel_rfl
theorem Zl:R.okB (al Tryz.prog Φ7 ai aH NM (iJ 333))=true:=by kernel_rfl
end Go.Rd
