/- Part Xk24 of the proof of ScopeEnds: no condition. -/
import Derived.Test.YtmabojcaklojhaaGreatXj
namespace Go.Rd
open Go.Rex Go.RowKit Go.Rt Go.Proofs
set_option maxRecDepth 100000
theorem k102:R.okB (chkF Tryz.prog Φ7 keys7 tbl (sp106 false) (gu106 false))=true:=by kernel_rfl
theorem k103:R.okB (chkF Tryz.prog Φ7 keys7 tbl (sp50 false) (gu50 false))=true:=by kernel_rfl
end Go.Rd
