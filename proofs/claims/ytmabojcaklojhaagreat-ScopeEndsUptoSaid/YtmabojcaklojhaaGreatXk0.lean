/- Part Xk0 of the proof of ScopeEnds: no condition. -/
import Derived.Test.YtmabojcaklojhaaGreatXj
namespace Go.Rd
open Go.Rex Go.RowKit Go.Rt Go.Proofs
set_option maxRecDepth 100000
theorem k5_1:R.okS (.n .o (.n (.n (.n .o (.n (.n (.n (.n .o .a) .a) .a) .a)) .a) .a)) (chkF Tryz.prog Φ7 keys7 tbl sp41 gu41)=true:=by kernel_rfl
theorem k119:R.okB (chkF Tryz.prog Φ7 keys7 tbl sp3 gu3)=true:=by kernel_rfl
end Go.Rd
