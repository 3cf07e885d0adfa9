/- Part Xk1 of the proof of ScopeEnds: no condition. -/
import Derived.Test.YtmabojcaklojhaaGreatXj
namespace Go.Rd
open Go.Rex Go.RowKit Go.Rt Go.Proofs
set_option maxRecDepth 100000
theorem k7_0:R.okS (.n .a (.n (.n (.n .a (.n (.n (.n (.n (.n .a .o) .o) .o) .o) .o)) .o) .o)) (chkF Tryz.prog Φ7 keys7 tbl sp9 gu9)=true:=by kernel_rfl
theorem k30:R.okB (chkF Tryz.prog Φ7 keys7 tbl sp46 gu46)=true:=by kernel_rfl
theorem k29:R.okB (chkF Tryz.prog Φ7 keys7 tbl (sp44 20) (guD 44))=true:=by kernel_rfl
end Go.Rd
