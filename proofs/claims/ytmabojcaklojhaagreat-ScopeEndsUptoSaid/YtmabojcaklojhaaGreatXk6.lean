/- Part Xk6 of the proof of ScopeEnds: no condition. -/
import Derived.Test.YtmabojcaklojhaaGreatXj
namespace Go.Rd
open Go.Rex Go.RowKit Go.Rt Go.Proofs
set_option maxRecDepth 100000
theorem k25_2:R.okS (.n (.n (.n (.n .o (.n (.n .o (.n (.n .o (.n (.n .o (.n .o (.n .o .a))) (.n (.n .a .o) .o))) .o)) .o)) .o) .o) .o) (chkF Tryz.prog Φ7 keys7 tbl sp43 gu43)=true:=by kernel_rfl
theorem k2:R.okB (chkF Tryz.prog Φ7 keys7 tbl sp38 gu38)=true:=by kernel_rfl
end Go.Rd
