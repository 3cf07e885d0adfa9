/- Part Xk14 of the proof of ScopeEnds: no condition. -/
import Derived.Test.YtmabojcaklojhaaGreatXj
namespace Go.Rd
open Go.Rex Go.RowKit Go.Rt Go.Proofs
set_option maxRecDepth 100000
theorem k25_3:R.okS (.n (.n (.n (.n .o (.n (.n .o (.n (.n .o (.n .o (.n (.n .o (.n .a .o)) .o))) .o)) .o)) .o) .o) .o) (chkF Tryz.prog Φ7 keys7 tbl sp43 gu43)=true:=by kernel_rfl
theorem k53:R.okB (chkF Tryz.prog Φ7 keys7 tbl sp346 (guD 346))=true:=by kernel_rfl
theorem k113:R.okB (chkF Tryz.prog Φ7 keys7 tbl sp16 gu16)=true:=by kernel_rfl
theorem k114:R.okB (chkF Tryz.prog Φ7 keys7 tbl sp17 gu17)=true:=by kernel_rfl
theorem k21:R.okB (chkF Tryz.prog Φ7 keys7 tbl sp88 gu88)=true:=by kernel_rfl
theorem k20:R.okB (chkF Tryz.prog Φ7 keys7 tbl sp87 gu87)=true:=by kernel_rfl
theorem k42:R.okB (chkF Tryz.prog Φ7 keys7 tbl (sp65 true) (guD 65))=true:=by kernel_rfl
theorem k32:R.okB (chkF Tryz.prog Φ7 keys7 tbl sp92 gu92)=true:=by kernel_rfl
theorem k43:R.okB (chkF Tryz.prog Φ7 keys7 tbl (sp65 false) (guD 65))=true:=by kernel_rfl
theorem k98:R.okB (chkF Tryz.prog Φ7 keys7 tbl (sp105 false) (guD 105))=true:=by kernel_rfl
theorem k90:R.okB (chkF Tryz.prog Φ7 keys7 tbl (sp105 true) (guD 105))=true:=by kernel_rfl
theorem k97:R.okB (chkF Tryz.prog Φ7 keys7 tbl (sp103 false) (guD 103))=true:=by kernel_rfl
theorem k44:R.okB (chkF Tryz.prog Φ7 keys7 tbl (sp155 true) (guD 155))=true:=by kernel_rfl
theorem k45:R.okB (chkF Tryz.prog Φ7 keys7 tbl (sp155 false) (guD 155))=true:=by kernel_rfl
theorem k89:R.okB (chkF Tryz.prog Φ7 keys7 tbl (sp103 true) (guD 103))=true:=by kernel_rfl
theorem k40:R.okB (chkF Tryz.prog Φ7 keys7 tbl (sp61 true) gu61)=true:=by kernel_rfl
theorem k88:R.okB (chkF Tryz.prog Φ7 keys7 tbl sp218 gu218)=true:=by kernel_rfl
theorem k41:R.okB (chkF Tryz.prog Φ7 keys7 tbl (sp61 false) gu61)=true:=by kernel_rfl
theorem k46:R.okB (chkF Tryz.prog Φ7 keys7 tbl (sp154 true) (guD 154))=true:=by kernel_rfl
end Go.Rd
