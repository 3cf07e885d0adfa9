/- Part Xk10 of the proof of ScopeEnds: no condition. -/
import Derived.Test.YtmabojcaklojhaaGreatXj
namespace Go.Rd
open Go.Rex Go.RowKit Go.Rt Go.Proofs
set_option maxRecDepth 100000
theorem k7_5:R.okS (.n .o (.n (.n (.n .o (.n (.n (.n (.n .o (.n (.n .o (.n .o .a)) .a)) .o) .o) .o)) .o) .o)) (chkF Tryz.prog Φ7 keys7 tbl sp9 gu9)=true:=by kernel_rfl
theorem k101:R.okB (chkF Tryz.prog Φ7 keys7 tbl (sp104 false) (gu104 false))=true:=by kernel_rfl
theorem k100:R.okB (chkF Tryz.prog Φ7 keys7 tbl (sp156 false) (gu156 false))=true:=by kernel_rfl
theorem k8:R.okB (chkF Tryz.prog Φ7 keys7 tbl (sp217 0) gu217)=true:=by kernel_rfl
theorem k9:R.okB (chkF Tryz.prog Φ7 keys7 tbl (sp217 20) gu217)=true:=by kernel_rfl
theorem k16:R.okB (chkF Tryz.prog Φ7 keys7 tbl (sp91 0) gu91)=true:=by kernel_rfl
end Go.Rd
