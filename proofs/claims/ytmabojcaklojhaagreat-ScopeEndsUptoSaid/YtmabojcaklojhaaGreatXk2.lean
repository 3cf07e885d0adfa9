/- Part Xk2 of the proof of ScopeEnds: no condition. -/
import Derived.Test.YtmabojcaklojhaaGreatXj
namespace Go.Rd
open Go.Rex Go.RowKit Go.Rt Go.Proofs
set_option maxRecDepth 100000
theorem k7_7:R.okS (.n .o (.n (.n (.n .o (.n (.n (.n .o (.n (.n (.n .o .a) .a) .a)) .o) .o)) .o) .o)) (chkF Tryz.prog Φ7 keys7 tbl sp9 gu9)=true:=by kernel_rfl
theorem k6:R.okB (chkF Tryz.prog Φ7 keys7 tbl sp8 gu8)=true:=by kernel_rfl
theorem k11:R.okB (chkF Tryz.prog Φ7 keys7 tbl (sp150 20) gu150)=true:=by kernel_rfl
end Go.Rd
