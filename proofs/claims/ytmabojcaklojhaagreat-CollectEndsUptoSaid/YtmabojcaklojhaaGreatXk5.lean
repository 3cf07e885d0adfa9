/- Part Xk5 of the proof of CollectEnds: no condition. -/
import Derived.Test.YtmabojcaklojhaaGreatXj
namespace Go.Rd
open Go.aI Go.RowKit Go.Rt Go.Proofs
set_option maxRecDepth 100000
theorem k131_0:R.iV (.n .a (.n (.n .a .o) .o)) (az Tryz.prog Φ7 aj aU (sD true) (sF true))=true:=by kernel_rfl
theorem k65_1:R.iV (.n (.n (.n (.n .o (.n (.n .o (.n (.n .o (.n (.n .o (.n .o (.n .a .o))) .o)) .o)) .o)) .o) .o) .o) (az Tryz.prog Φ7 aj aU oe og)=true:=by kernel_rfl
theorem k65_0:R.iV (.n (.n (.n (.n .a (.n (.n .a (.n (.n .a (.n (.n .a (.n .a .o)) .o)) .o)) .o)) .o) .o) .o) (az Tryz.prog Φ7 aj aU oe og)=true:=by kernel_rfl
theorem k65_8:R.iV (.n (.n .o (.n (.n .o (.n (.n (.n .o (.n (.n .o (.n (.n .o (.n .o (.n .a .o))) .o)) .o)) .o) .o)) .o)) .o) (az Tryz.prog Φ7 aj aU oe og)=true:=by kernel_rfl
theorem k65_7:R.iV (.n (.n .o (.n (.n .o (.n (.n (.n .o (.n (.n .o (.n (.n .o (.n .a .o)) .o)) .o)) .o) .o)) .o)) .o) (az Tryz.prog Φ7 aj aU oe og)=true:=by kernel_rfl
theorem k38:R.okB (az Tryz.prog Φ7 aj aU N6 N7)=true:=by kernel_rfl
end Go.Rd
