/- Part Xk18 of the proof of ScopeEnds: no condition. -/
import Derived.Test.YtmabojcaklojhaaGreatXj
namespace Go.Rd
open Go.Rex Go.RowKit Go.Rt Go.Proofs
set_option maxRecDepth 100000
theorem k25_7:R.okS (.n (.n .o (.n (.n .o (.n (.n (.n .o (.n (.n .o (.n (.n .o (.n .a .o)) .o)) .o)) .o) .o)) .o)) .o) (chkF Tryz.prog Φ7 keys7 tbl sp43 gu43)=true:=by kernel_rfl
theorem k95:R.okB (chkF Tryz.prog Φ7 keys7 tbl (sp50 true) (gu50 true))=true:=by kernel_rfl
end Go.Rd
