/- Part Xk13 of the proof of ScopeEnds: no condition. -/
import Derived.Test.YtmabojcaklojhaaGreatXj
namespace Go.Rd
open Go.Rex Go.RowKit Go.Rt Go.Proofs
set_option maxRecDepth 100000
theorem k7_1:R.okS (.n .o (.n (.n (.n .o (.n (.n (.n (.n (.n .o (.n .a .o)) .o) .o) .o) .o)) .o) .o)) (chkF Tryz.prog Φ7 keys7 tbl sp9 gu9)=true:=by kernel_rfl
theorem k57:R.okB (chkF Tryz.prog Φ7 keys7 tbl (sp108 0) (guE 108 2))=true:=by kernel_rfl
theorem k56:R.okB (chkF Tryz.prog Φ7 keys7 tbl (sp107 0) (guE 107 1))=true:=by kernel_rfl
theorem k69:R.okB (chkF Tryz.prog Φ7 keys7 tbl (sp96 0) (guE 96 6))=true:=by kernel_rfl
theorem k82:R.okB (chkF Tryz.prog Φ7 keys7 tbl (sp101 60) (guE 101 5))=true:=by kernel_rfl
theorem k23:R.okB (chkF Tryz.prog Φ7 keys7 tbl sp90 gu90)=true:=by kernel_rfl
theorem k59:R.okB (chkF Tryz.prog Φ7 keys7 tbl (sp110 0) (guE 110 3))=true:=by kernel_rfl
theorem k74:R.okB (chkF Tryz.prog Φ7 keys7 tbl (sp108 60) (guE 108 2))=true:=by kernel_rfl
theorem k86:R.okB (chkF Tryz.prog Φ7 keys7 tbl (sp96 60) (guE 96 6))=true:=by kernel_rfl
theorem k76:R.okB (chkF Tryz.prog Φ7 keys7 tbl (sp110 60) (guE 110 3))=true:=by kernel_rfl
theorem k73:R.okB (chkF Tryz.prog Φ7 keys7 tbl (sp107 60) (guE 107 1))=true:=by kernel_rfl
theorem k79:R.okB (chkF Tryz.prog Φ7 keys7 tbl (sp152 60) (guE 152 4))=true:=by kernel_rfl
theorem k115:R.okB (chkF Tryz.prog Φ7 keys7 tbl sp18 (guD 18))=true:=by kernel_rfl
theorem k13:R.okB (chkF Tryz.prog Φ7 keys7 tbl (sp151 20) gu151)=true:=by kernel_rfl
theorem k116:R.okB (chkF Tryz.prog Φ7 keys7 tbl sp19 (guD 19))=true:=by kernel_rfl
end Go.Rd
