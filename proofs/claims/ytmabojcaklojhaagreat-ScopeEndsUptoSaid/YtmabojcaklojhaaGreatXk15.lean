/- Part Xk15 of the proof of ScopeEnds: no condition. -/
import Derived.Test.YtmabojcaklojhaaGreatXj
namespace Go.Rd
open Go.Rex Go.RowKit Go.Rt Go.Proofs
set_option maxRecDepth 100000
theorem k25_10:R.okS (.n (.n .o (.n (.n .o (.n (.n (.n .o (.n (.n .o (.n .o (.n (.n .o (.n .a .o)) .o))) .o)) .o) .o)) .o)) .o) (chkF Tryz.prog Φ7 keys7 tbl sp43 gu43)=true:=by kernel_rfl
theorem k51:R.okB (chkF Tryz.prog Φ7 keys7 tbl sp450 (guD 450))=true:=by kernel_rfl
theorem k47:R.okB (chkF Tryz.prog Φ7 keys7 tbl (sp154 false) (guD 154))=true:=by kernel_rfl
theorem k110:R.okB (chkF Tryz.prog Φ7 keys7 tbl sp51 (guD 51))=true:=by kernel_rfl
theorem k31:R.okB (chkF Tryz.prog Φ7 keys7 tbl sp93 (guD 93))=true:=by kernel_rfl
theorem k14:R.okB (chkF Tryz.prog Φ7 keys7 tbl (sp149 0) (guD 149))=true:=by kernel_rfl
theorem k34:R.okB (chkF Tryz.prog Φ7 keys7 tbl sp94 gu94)=true:=by kernel_rfl
theorem k66:R.okB (chkF Tryz.prog Φ7 keys7 tbl (sp99 0) (guD 99))=true:=by kernel_rfl
theorem k83:R.okB (chkF Tryz.prog Φ7 keys7 tbl (sp99 60) (guD 99))=true:=by kernel_rfl
theorem k15:R.okB (chkF Tryz.prog Φ7 keys7 tbl (sp149 20) (guD 149))=true:=by kernel_rfl
theorem k81:R.okB (chkF Tryz.prog Φ7 keys7 tbl (sp102 60) (guD 102))=true:=by kernel_rfl
theorem k85:R.okB (chkF Tryz.prog Φ7 keys7 tbl (sp97 60) (guD 97))=true:=by kernel_rfl
theorem k68:R.okB (chkF Tryz.prog Φ7 keys7 tbl (sp97 0) (guD 97))=true:=by kernel_rfl
theorem k52:R.okB (chkF Tryz.prog Φ7 keys7 tbl sp345 (guD 345))=true:=by kernel_rfl
theorem k64:R.okB (chkF Tryz.prog Φ7 keys7 tbl (sp102 0) (guD 102))=true:=by kernel_rfl
theorem k35:R.okB (chkF Tryz.prog Φ7 keys7 tbl sp95 (guD 95))=true:=by kernel_rfl
theorem k54:R.okB (chkF Tryz.prog Φ7 keys7 tbl (sp53 0) (guD 53))=true:=by kernel_rfl
theorem k71:R.okB (chkF Tryz.prog Φ7 keys7 tbl (sp53 60) (guD 53))=true:=by kernel_rfl
theorem k72:R.okB (chkF Tryz.prog Φ7 keys7 tbl (sp109 60) (guD 109))=true:=by kernel_rfl
theorem k75:R.okB (chkF Tryz.prog Φ7 keys7 tbl (sp111 60) (guD 111))=true:=by kernel_rfl
theorem k58:R.okB (chkF Tryz.prog Φ7 keys7 tbl (sp111 0) (guD 111))=true:=by kernel_rfl
theorem k107:R.okB (chkF Tryz.prog Φ7 keys7 tbl sp55 gu55)=true:=by kernel_rfl
theorem k50:R.okB (chkF Tryz.prog Φ7 keys7 tbl sp449 (guD 449))=true:=by kernel_rfl
end Go.Rd
