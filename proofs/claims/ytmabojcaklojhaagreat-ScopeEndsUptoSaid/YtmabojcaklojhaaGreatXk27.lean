/- Part Xk27 of the proof of ScopeEnds: no condition. -/
import Derived.Test.YtmabojcaklojhaaGreatXj
namespace Go.Rd
open Go.Rex Go.RowKit Go.Rt Go.Proofs
set_option maxRecDepth 100000
theorem k94:R.okB (chkF Tryz.prog Φ7 keys7 tbl (sp106 true) (gu106 true))=true:=by kernel_rfl
theorem k104:R.okB (chkF Tryz.prog Φ7 keys7 tbl (sp11 false) (gu11 false))=true:=by kernel_rfl
end Go.Rd
