/- Part Xk11 of the proof of ScopeEnds: no condition. -/
import Derived.Test.YtmabojcaklojhaaGreatXj
namespace Go.Rd
open Go.Rex Go.RowKit Go.Rt Go.Proofs
set_option maxRecDepth 100000
theorem k91_0:R.okS (.n .a (.n (.n .a .o) .o)) (chkF Tryz.prog Φ7 keys7 tbl (sp219 true) (gu219 true))=true:=by kernel_rfl
theorem k10:R.okB (chkF Tryz.prog Φ7 keys7 tbl (sp150 0) gu150)=true:=by kernel_rfl
theorem k1:R.okB (chkF Tryz.prog Φ7 keys7 tbl sp40w gu40w)=true:=by kernel_rfl
theorem k3:R.okB (chkF Tryz.prog Φ7 keys7 tbl sp38w gu38w)=true:=by kernel_rfl
theorem k4:R.okB (chkF Tryz.prog Φ7 keys7 tbl sp39 gu39)=true:=by kernel_rfl
theorem k28:R.okB (chkF Tryz.prog Φ7 keys7 tbl (sp44 0) (guD 44))=true:=by kernel_rfl
theorem k12:R.okB (chkF Tryz.prog Φ7 keys7 tbl (sp151 0) gu151)=true:=by kernel_rfl
theorem k84:R.okB (chkF Tryz.prog Φ7 keys7 tbl (sp98 60) (guE 98 7))=true:=by kernel_rfl
theorem k67:R.okB (chkF Tryz.prog Φ7 keys7 tbl (sp98 0) (guE 98 7))=true:=by kernel_rfl
theorem k111:R.okB (chkF Tryz.prog Φ7 keys7 tbl sp14 gu14)=true:=by kernel_rfl
theorem k65:R.okB (chkF Tryz.prog Φ7 keys7 tbl (sp101 0) (guE 101 5))=true:=by kernel_rfl
end Go.Rd
