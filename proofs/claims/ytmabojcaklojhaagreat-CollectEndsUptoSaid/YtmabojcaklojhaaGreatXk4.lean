/- Part Xk4 of the proof of CollectEnds: no condition. -/
import Derived.Test.YtmabojcaklojhaaGreatXj
namespace Go.Rd
open Go.aI Go.RowKit Go.Rt Go.Proofs
set_option maxRecDepth 100000
theorem k65_9:R.iV (.n (.n .o (.n (.n .o (.n (.n (.n .o (.n (.n .o (.n (.n .o (.n .o (.n .o .a))) (.n (.n .a .o) .o))) .o)) .o) .o)) .o)) .o) (az Tryz.prog Φ7 aj aU oe og)=true:=by kernel_rfl
theorem k139_0:R.iV (.n .a (.n (.n .a .o) .o)) (az Tryz.prog Φ7 aj aU (sD false) (sF false))=true:=by kernel_rfl
theorem k47_6:R.iV (.n .o (.n (.n (.n .o (.n (.n (.n .o (.n (.n (.n .a .o) .o) .o)) .o) .o)) .o) .o)) (az Tryz.prog Φ7 aj aU JV JW)=true:=by kernel_rfl
theorem k139_1:R.iV (.n .o (.n (.n .o .a) .a)) (az Tryz.prog Φ7 aj aU (sD false) (sF false))=true:=by kernel_rfl
theorem k77_0:R.iV (.n (.n (.n .a (.n .a (.n .a (.n .a (.n .a (.n .a .o)))))) .o) .o) (az Tryz.prog Φ7 aj aU Mg Mi)=true:=by kernel_rfl
theorem k84:R.okB (az Tryz.prog Φ7 aj aU (EP true) (cj 155))=true:=by kernel_rfl
end Go.Rd
