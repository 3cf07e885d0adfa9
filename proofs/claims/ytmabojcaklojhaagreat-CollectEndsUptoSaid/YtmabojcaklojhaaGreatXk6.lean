/- Part Xk6 of the proof of CollectEnds: no condition. -/
import Derived.Test.YtmabojcaklojhaaGreatXj
namespace Go.Rd
open Go.aI Go.RowKit Go.Rt Go.Proofs
set_option maxRecDepth 100000
theorem k131_1:R.iV (.n .o (.n (.n .o .a) .a)) (az Tryz.prog Φ7 aj aU (sD true) (sF true))=true:=by kernel_rfl
theorem k65_3:R.iV (.n (.n (.n (.n .o (.n (.n .o (.n (.n .o (.n .o (.n (.n .o (.n .a .o)) .o))) .o)) .o)) .o) .o) .o) (az Tryz.prog Φ7 aj aU oe og)=true:=by kernel_rfl
theorem k65_10:R.iV (.n (.n .o (.n (.n .o (.n (.n (.n .o (.n (.n .o (.n .o (.n (.n .o (.n .a .o)) .o))) .o)) .o) .o)) .o)) .o) (az Tryz.prog Φ7 aj aU oe og)=true:=by kernel_rfl
theorem k134_1:R.iV (.n .o (.n (.n .o .a) .a)) (az Tryz.prog Φ7 aj aU (qN true) (qO true))=true:=by kernel_rfl
theorem k0:R.okB (az Tryz.prog Φ7 aj aU QP Vc)=true:=by kernel_rfl
theorem k16:R.okB (az Tryz.prog Φ7 aj aU (ML false) MM)=true:=by kernel_rfl
end Go.Rd
