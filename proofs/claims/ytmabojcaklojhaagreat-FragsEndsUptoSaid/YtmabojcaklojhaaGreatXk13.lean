/- Part Xk13 of the proof of FragsEnds: no condition. -/
import Derived.Test.YtmabojcaklojhaaGreatXj
namespace Go.Rd
open Go.aQ Go.RowKit Go.Rt Go.Proofs
set_option maxRecDepth 100000
theorem Wd:R.okB (ak Tryz.prog Φ7 ah aH M8 (eY 205))=true:=by kernel_rfl
theorem TX:R.cR (.n (.n (.n (.n .o (.n (.n .o (.n (.n .o (.n .o (.n (.n .o (.n (.n .o (.n .o .a)) .o)) .o))) .o)) .o)) .o) .o) .o) (ak Tryz.prog Φ7 ah aH gM gN)=true:=by kernel_rfl
theorem TY:R.cR (.n .o (.n (.n (.n .o (.n (.n .o .a) .a)) .a) .a)) (ak Tryz.prog Φ7 ah aH tE tF)=true:=by kernel_rfl
theorem TZ:R.cR (.n (.n (.n (.n .o (.n (.n .o (.n (.n .o (.n (.n .o (.n .o (.n .o (.n .o .a)))) (.n (.n .a (.n (.n .a .o) .o)) .o))) .o)) .o)) .o) .o) .o) (ak Tryz.prog Φ7 ah aH gM gN)=true:=by kernel_rfl
theorem We:R.okB (ak Tryz.prog Φ7 ah aH NK NL)=true:=by kernel_rfl
theorem Ql:R.cR (.n .o (.n (.n .o .a) .a)) (ak Tryz.prog Φ7 ah aH (vB false) (vC false))=true:=by kernel_rfl
theorem T0:R.cR (.n .o (.n (.n .o (.n (.n .o (.n (.n .o .a) .a)) .a)) .a)) (ak Tryz.prog Φ7 ah aH (lA true) (lB true))=true:=by kernel_rfl
theorem Qm:R.cR (.n (.n .o (.n (.n .o (.n (.n (.n .o (.n (.n .o (.n (.n .o (.n .o (.n (.n .o (.n .o .a)) .o))) .o)) .o)) .o) .o)) .o)) .o) (ak Tryz.prog Φ7 ah aH gM gN)=true:=by kernel_rfl
theorem k9:R.okB (ak Tryz.prog Φ7 ah aH (CK 20) CM)=true:=by kernel_rfl
end Go.Rd
