/- Part Xk19 of the proof of ScopeEnds: no condition. -/
import Derived.Test.YtmabojcaklojhaaGreatXj
namespace Go.Rd
open Go.Rex Go.RowKit Go.Rt Go.Proofs
set_option maxRecDepth 100000
theorem k91_1:R.okS (.n .o (.n (.n .o .a) .a)) (chkF Tryz.prog Φ7 keys7 tbl (sp219 true) (gu219 true))=true:=by kernel_rfl
end Go.Rd
