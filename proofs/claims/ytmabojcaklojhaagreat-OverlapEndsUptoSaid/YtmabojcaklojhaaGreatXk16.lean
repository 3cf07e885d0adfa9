/- Part Xk16 of the proof of OverlapEnds: no condition. -/
import Derived.Test.YtmabojcaklojhaaGreatXj
namespace Go.Rd
open Go.aK Go.RowKit Go.Rt Go.Proofs
set_option maxRecDepth 100000
theorem X7:R.okB (al Tryz.prog Φ7 ai aH Oj Ol)=true:=by kernel_rfl
theorem X8:R.okB (al Tryz.prog Φ7 ai aH NJ (iJ 205))=true:=by kernel_rfl
theorem X9:R.okB (al Tryz.prog Φ7 ai aH OE OG)=true:=by kernel_rfl
theorem Ya:R.okB (al Tryz.prog Φ7 ai aH (Mh false) Mi)=true:=by kernel_rfl
theorem Yb:R.okB (al Tryz.prog Φ7 ai aH Vo Me)=true:=by kernel_rfl
theorem Yc:R.okB (al Tryz.prog Φ7 ai aH OJ OK)=true:=by kernel_rfl
theorem Yd:R.okB (al Tryz.prog Φ7 ai aH N4 N5)=true:=by kernel_rfl
theorem Ye:R.okB (al Tryz.prog Φ7 ai aH S5 XX)=true:=by kernel_rfl
theorem Yf:R.okB (al Tryz.prog Φ7 ai aH U2 U3)=true:=by kernel_rfl
theorem Yg:R.okB (al Tryz.prog Φ7 ai aH U5 U6)=true:=by kernel_rfl
theorem Yh:R.okB (al Tryz.prog Φ7 ai aH N8 N9)=true:=by kernel_rfl
theorem R9:R.dL (.n .o (.n (.n (.n .o (.n .o .a)) .a) .a)) (al Tryz.prog Φ7 ai aH L9 Ma)=true:=by kernel_rfl
theorem Yi:R.okB (al Tryz.prog Φ7 ai aH OO (fM 444))=true:=by kernel_rfl
theorem Yj:R.okB (al Tryz.prog Φ7 ai aH Od (iJ 326))=true:=by kernel_rfl
theorem VH:R.dL (.n .a (.n (.n (.n .a .o) .o) .o)) (al Tryz.prog Φ7 ai aH (oM true) (oN true))=true:=by kernel_rfl
theorem Yk:R.okB (al Tryz.prog Φ7 ai aH (Mk false) (fM 36))=true:=by kernel_rfl
end Go.Rd
