/- Part Xk14 of the proof of FragsEnds: no condition. -/
import Derived.Test.YtmabojcaklojhaaGreatXj
namespace Go.Rd
open Go.aQ Go.RowKit Go.Rt Go.Proofs
set_option maxRecDepth 100000
theorem Qn:R.cR (.n (.n (.n (.n .o (.n (.n .o (.n (.n .o (.n .o (.n .o (.n .o (.n (.n .o (.n .a .o)) .o))))) .o)) .o)) .o) .o) .o) (ak Tryz.prog Φ7 ah aH gM gN)=true:=by kernel_rfl
theorem Qo:R.cR (.n (.n .o (.n (.n .o (.n (.n (.n .o (.n (.n .o (.n (.n .o (.n (.n (.n .o (.n .o .a)) .a) (.n (.n .a .o) .o))) .o)) .o)) .o) .o)) .o)) .o) (ak Tryz.prog Φ7 ah aH gM gN)=true:=by kernel_rfl
theorem T1:R.cR (.n .o (.n (.n (.n .o (.n (.n .o .a) .a)) (.n (.n .a .o) .o)) .o)) (ak Tryz.prog Φ7 ah aH (lA true) (lB true))=true:=by kernel_rfl
theorem Qp:R.cR (.n (.n .o (.n (.n .o (.n (.n (.n .o (.n (.n .o (.n .o (.n .o (.n .o (.n (.n .o (.n .o .a)) .a))))) .a)) .a) .a)) .a)) .a) (ak Tryz.prog Φ7 ah aH gM gN)=true:=by kernel_rfl
theorem Qq:R.cR (.n .o (.n (.n (.n (.n (.n .o (.n (.n .o (.n (.n .o (.n (.n (.n .o .a) .a) (.n (.n .a .o) .o))) .o)) .o)) .o) .o) .o) .o)) (ak Tryz.prog Φ7 ah aH (qv false) qw)=true:=by kernel_rfl
theorem Qr:R.cR (.n (.n (.n (.n .o (.n (.n .o (.n (.n .o (.n .o (.n .o (.n .o (.n (.n .o (.n .o .a)) .a))))) .a)) .a)) .a) (.n (.n .a (.n (.n (.n .a (.n (.n .a (.n (.n .a (.n (.n (.n .a .o) .o) .o)) .o)) .o)) .o) .o)) .o)) .o) (ak Tryz.prog Φ7 ah aH gM gN)=true:=by kernel_rfl
theorem Wg:R.okB (ak Tryz.prog Φ7 ah aH TE LX)=true:=by kernel_rfl
theorem YB:R.okB (ak Tryz.prog Φ7 ah aH SN SP)=true:=by kernel_rfl
theorem Qs:R.cR (.n .o (.n .o (.n .o (.n .o (.n (.n .o (.n .o .a)) .a))))) (ak Tryz.prog Φ7 ah aH vE vF)=true:=by kernel_rfl
theorem YC:R.okB (ak Tryz.prog Φ7 ah aH SW SX)=true:=by kernel_rfl
end Go.Rd
