/- Part Xk12 of the proof of ScopeEnds: no condition. -/
import Derived.Test.YtmabojcaklojhaaGreatXj
namespace Go.Rd
open Go.Rex Go.RowKit Go.Rt Go.Proofs
set_option maxRecDepth 100000
theorem k37_1:R.okS (.n (.n (.n .o (.n .o (.n .o (.n .o (.n .o (.n .o .a)))))) .a) .a) (chkF Tryz.prog Φ7 keys7 tbl sp10 gu10)=true:=by kernel_rfl
theorem k7_8:R.okS (.n .o (.n (.n (.n .o (.n (.n .o .a) .a)) .a) .a)) (chkF Tryz.prog Φ7 keys7 tbl sp9 gu9)=true:=by kernel_rfl
end Go.Rd
