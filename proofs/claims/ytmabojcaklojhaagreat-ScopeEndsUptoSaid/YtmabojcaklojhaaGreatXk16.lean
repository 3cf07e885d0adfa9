/- Part Xk16 of the proof of ScopeEnds: no condition. -/
import Derived.Test.YtmabojcaklojhaaGreatXj
namespace Go.Rd
open Go.Rex Go.RowKit Go.Rt Go.Proofs
set_option maxRecDepth 100000
theorem k25_1:R.okS (.n (.n (.n (.n .o (.n (.n .o (.n (.n .o (.n (.n .o (.n .o (.n .a .o))) .o)) .o)) .o)) .o) .o) .o) (chkF Tryz.prog Φ7 keys7 tbl sp43 gu43)=true:=by kernel_rfl
theorem k55:R.okB (chkF Tryz.prog Φ7 keys7 tbl (sp109 0) (guD 109))=true:=by kernel_rfl
theorem k108:R.okB (chkF Tryz.prog Φ7 keys7 tbl sp55d gu55d)=true:=by kernel_rfl
theorem k109:R.okB (chkF Tryz.prog Φ7 keys7 tbl sp52 gu52)=true:=by kernel_rfl
theorem k87:R.okB (chkF Tryz.prog Φ7 keys7 tbl (sp49 60) (guD 49))=true:=by kernel_rfl
theorem k80:R.okB (chkF Tryz.prog Φ7 keys7 tbl (sp100 60) (guD 100))=true:=by kernel_rfl
theorem k70:R.okB (chkF Tryz.prog Φ7 keys7 tbl (sp49 0) (guD 49))=true:=by kernel_rfl
theorem k118:R.okB (chkF Tryz.prog Φ7 keys7 tbl sp21 (guD 21))=true:=by kernel_rfl
theorem k105:R.okB (chkF Tryz.prog Φ7 keys7 tbl sp12 (guD 12))=true:=by kernel_rfl
theorem k18:R.okB (chkF Tryz.prog Φ7 keys7 tbl sp85 (guD 85))=true:=by kernel_rfl
theorem k77:R.okB (chkF Tryz.prog Φ7 keys7 tbl (sp54 60) (guD 54))=true:=by kernel_rfl
theorem k61:R.okB (chkF Tryz.prog Φ7 keys7 tbl (sp153 0) (guD 153))=true:=by kernel_rfl
theorem k60:R.okB (chkF Tryz.prog Φ7 keys7 tbl (sp54 0) (guD 54))=true:=by kernel_rfl
theorem k63:R.okB (chkF Tryz.prog Φ7 keys7 tbl (sp100 0) (guD 100))=true:=by kernel_rfl
theorem k78:R.okB (chkF Tryz.prog Φ7 keys7 tbl (sp153 60) (guD 153))=true:=by kernel_rfl
theorem k106:R.okB (chkF Tryz.prog Φ7 keys7 tbl sp13 (guD 13))=true:=by kernel_rfl
theorem k38:R.okB (chkF Tryz.prog Φ7 keys7 tbl sp122n (guD 122))=true:=by kernel_rfl
theorem k19:R.okB (chkF Tryz.prog Φ7 keys7 tbl sp86 (guD 86))=true:=by kernel_rfl
theorem k112:R.okB (chkF Tryz.prog Φ7 keys7 tbl sp15 (guD 15))=true:=by kernel_rfl
theorem k22:R.okB (chkF Tryz.prog Φ7 keys7 tbl sp89 (guD 89))=true:=by kernel_rfl
theorem k39:R.okB (chkF Tryz.prog Φ7 keys7 tbl sp122 (guD 122))=true:=by kernel_rfl
end Go.Rd
