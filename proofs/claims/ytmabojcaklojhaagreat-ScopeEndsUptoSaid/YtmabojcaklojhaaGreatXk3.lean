/- Part Xk3 of the proof of ScopeEnds: no condition. -/
import Derived.Test.YtmabojcaklojhaaGreatXj
namespace Go.Rd
open Go.Rex Go.RowKit Go.Rt Go.Proofs
set_option maxRecDepth 100000
theorem k7_3:R.okS (.n .o (.n (.n (.n .o (.n (.n (.n (.n .o (.n (.n .a .o) .o)) .o) .o) .o)) .o) .o)) (chkF Tryz.prog Φ7 keys7 tbl sp9 gu9)=true:=by kernel_rfl
theorem k36:R.okB (chkF Tryz.prog Φ7 keys7 tbl sp48 gu48)=true:=by kernel_rfl
theorem k92:R.okB (chkF Tryz.prog Φ7 keys7 tbl (sp156 true) (gu156 true))=true:=by kernel_rfl
end Go.Rd
