/- Part Xk9 of the proof of ScopeEnds: no condition. -/
import Derived.Test.YtmabojcaklojhaaGreatXj
namespace Go.Rd
open Go.Rex Go.RowKit Go.Rt Go.Proofs
set_option maxRecDepth 100000
theorem k99_1:R.okS (.n .o (.n (.n .o .a) .a)) (chkF Tryz.prog Φ7 keys7 tbl (sp219 false) (gu219 false))=true:=by kernel_rfl
theorem k26:R.okB (chkF Tryz.prog Φ7 keys7 tbl (sp45 0) gu45)=true:=by kernel_rfl
theorem k27:R.okB (chkF Tryz.prog Φ7 keys7 tbl (sp45 20) gu45)=true:=by kernel_rfl
theorem k93:R.okB (chkF Tryz.prog Φ7 keys7 tbl (sp104 true) (gu104 true))=true:=by kernel_rfl
end Go.Rd
