/- Part Xk23 of the proof of ScopeEnds: no condition. -/
import Derived.Test.YtmabojcaklojhaaGreatXj
namespace Go.Rd
open Go.Rex Go.RowKit Go.Rt Go.Proofs
set_option maxRecDepth 100000
theorem k25_13:R.okS (.n (.n .o (.n (.n .o (.n (.n (.n .o (.n (.n .o (.n .o (.n .o (.n .o .a)))) .a)) .a) .a)) .a)) .a) (chkF Tryz.prog Φ7 keys7 tbl sp43 gu43)=true:=by kernel_rfl
theorem k37_0:R.okS (.n (.n (.n .a (.n .a (.n .a (.n .a (.n .a (.n .a .o)))))) .o) .o) (chkF Tryz.prog Φ7 keys7 tbl sp10 gu10)=true:=by kernel_rfl
end Go.Rd
