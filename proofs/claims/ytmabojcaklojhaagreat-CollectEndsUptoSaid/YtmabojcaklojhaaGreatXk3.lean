/- Part Xk3 of the proof of CollectEnds: no condition. -/
import Derived.Test.YtmabojcaklojhaaGreatXj
namespace Go.Rd
open Go.aI Go.RowKit Go.Rt Go.Proofs
set_option maxRecDepth 100000
theorem k47_1:R.iV (.n .o (.n (.n (.n .o (.n (.n (.n (.n (.n .o (.n .a .o)) .o) .o) .o) .o)) .o) .o)) (az Tryz.prog Φ7 aj aU JV JW)=true:=by kernel_rfl
theorem k65_5:R.iV (.n (.n (.n (.n .o (.n (.n .o (.n (.n .o (.n .o (.n .o (.n .a .o)))) .o)) .o)) .o) .o) .o) (az Tryz.prog Φ7 aj aU oe og)=true:=by kernel_rfl
theorem k65_12:R.iV (.n (.n .o (.n (.n .o (.n (.n (.n .o (.n (.n .o (.n .o (.n .o (.n .a .o)))) .o)) .o) .o)) .o)) .o) (az Tryz.prog Φ7 aj aU oe og)=true:=by kernel_rfl
theorem k65_2:R.iV (.n (.n (.n (.n .o (.n (.n .o (.n (.n .o (.n (.n .o (.n .o (.n .o .a))) (.n (.n .a .o) .o))) .o)) .o)) .o) .o) .o) (az Tryz.prog Φ7 aj aU oe og)=true:=by kernel_rfl
theorem k42:R.okB (az Tryz.prog Φ7 aj aU R4 R5)=true:=by kernel_rfl
theorem k132:R.okB (az Tryz.prog Φ7 aj aU (E8 true) (E9 true))=true:=by kernel_rfl
end Go.Rd
