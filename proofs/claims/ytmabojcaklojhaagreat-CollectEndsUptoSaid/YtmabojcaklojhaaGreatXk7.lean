/- Part Xk7 of the proof of CollectEnds: no condition. -/
import Derived.Test.YtmabojcaklojhaaGreatXj
namespace Go.Rd
open Go.aI Go.RowKit Go.Rt Go.Proofs
set_option maxRecDepth 100000
theorem k47_4:R.iV (.n .o (.n (.n (.n .o (.n (.n (.n (.n .o (.n (.n .o (.n .a .o)) .o)) .o) .o) .o)) .o) .o)) (az Tryz.prog Φ7 aj aU JV JW)=true:=by kernel_rfl
theorem k65_6:R.iV (.n (.n (.n (.n .o (.n (.n .o (.n (.n .o (.n .o (.n .o (.n .o .a)))) .a)) .a)) .a) (.n (.n .a (.n (.n (.n .a (.n (.n .a (.n (.n .a .o) .o)) .o)) .o) .o)) .o)) .o) (az Tryz.prog Φ7 aj aU oe og)=true:=by kernel_rfl
theorem k47_2:R.iV (.n .o (.n (.n (.n .o (.n (.n (.n (.n (.n .o (.n .o .a)) .o) .o) .o) .o)) .o) .o)) (az Tryz.prog Φ7 aj aU JV JW)=true:=by kernel_rfl
theorem k65_13:R.iV (.n (.n .o (.n (.n .o (.n (.n (.n .o (.n (.n .o (.n .o (.n .o (.n .o .a)))) .a)) .a) .a)) .a)) .a) (az Tryz.prog Φ7 aj aU oe og)=true:=by kernel_rfl
theorem k45_0:R.iV (.n .a (.n (.n (.n .a (.n (.n (.n (.n .a .o) .o) .o) .o)) .o) .o)) (az Tryz.prog Φ7 aj aU L8 L9)=true:=by kernel_rfl
theorem k64:R.okB (az Tryz.prog Φ7 aj aU Sk Sm)=true:=by kernel_rfl
theorem k140:R.okB (az Tryz.prog Φ7 aj aU (E8 false) (E9 false))=true:=by kernel_rfl
end Go.Rd
