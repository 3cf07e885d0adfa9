/- Part Xk8 of the proof of CollectEnds: no condition. -/
import Derived.Test.YtmabojcaklojhaaGreatXj
namespace Go.Rd
open Go.aI Go.RowKit Go.Rt Go.Proofs
set_option maxRecDepth 100000
theorem k135:R.okB (az Tryz.prog Φ7 aj aU (Mv true) (Mw true))=true:=by kernel_rfl
theorem k65_4:R.iV (.n (.n (.n (.n .o (.n (.n .o (.n (.n .o (.n .o (.n (.n .o (.n .o .a)) .o))) .o)) .o)) .o) .o) .o) (az Tryz.prog Φ7 aj aU oe og)=true:=by kernel_rfl
theorem k65_11:R.iV (.n (.n .o (.n (.n .o (.n (.n (.n .o (.n (.n .o (.n .o (.n (.n .o (.n .o .a)) .o))) .o)) .o) .o)) .o)) .o) (az Tryz.prog Φ7 aj aU oe og)=true:=by kernel_rfl
theorem k47_8:R.iV (.n .o (.n (.n (.n .o (.n (.n .o .a) .a)) .a) .a)) (az Tryz.prog Φ7 aj aU JV JW)=true:=by kernel_rfl
theorem k14:R.okB (az Tryz.prog Φ7 aj aU (MF false) (MG false))=true:=by kernel_rfl
theorem k73:R.okB (az Tryz.prog Φ7 aj aU Ss Sv)=true:=by kernel_rfl
theorem k40:R.okB (az Tryz.prog Φ7 aj aU R2 R3)=true:=by kernel_rfl
theorem k8:R.okB (az Tryz.prog Φ7 aj aU (MF true) (MG true))=true:=by kernel_rfl
theorem k12:R.okB (az Tryz.prog Φ7 aj aU (Fk false) Fl)=true:=by kernel_rfl
theorem k6:R.okB (az Tryz.prog Φ7 aj aU (Fk true) Fl)=true:=by kernel_rfl
theorem k142_0:R.iV (.n .a (.n (.n (.n .a .o) .o) .o)) (az Tryz.prog Φ7 aj aU (qN false) (qO false))=true:=by kernel_rfl
theorem k10:R.okB (az Tryz.prog Φ7 aj aU (ML true) MM)=true:=by kernel_rfl
theorem k70:R.okB (az Tryz.prog Φ7 aj aU Sz SD)=true:=by kernel_rfl
theorem k46:R.okB (az Tryz.prog Φ7 aj aU VJ VK)=true:=by kernel_rfl
end Go.Rd
