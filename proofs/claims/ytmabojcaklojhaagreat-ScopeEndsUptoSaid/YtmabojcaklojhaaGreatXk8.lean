/- Part Xk8 of the proof of ScopeEnds: no condition. -/
import Derived.Test.YtmabojcaklojhaaGreatXj
namespace Go.Rd
open Go.Rex Go.RowKit Go.Rt Go.Proofs
set_option maxRecDepth 100000
theorem k99_0:R.okS (.n .a (.n (.n .a .o) .o)) (chkF Tryz.prog Φ7 keys7 tbl (sp219 false) (gu219 false))=true:=by kernel_rfl
theorem k0:R.okB (chkF Tryz.prog Φ7 keys7 tbl sp40 gu40)=true:=by kernel_rfl
theorem k17:R.okB (chkF Tryz.prog Φ7 keys7 tbl (sp91 20) gu91)=true:=by kernel_rfl
end Go.Rd
