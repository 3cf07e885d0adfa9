/- Part Xk10 of the proof of FragsEnds: no condition. -/
import Derived.Test.YtmabojcaklojhaaGreatXj
namespace Go.Rd
open Go.aQ Go.RowKit Go.Rt Go.Proofs
set_option maxRecDepth 100000
theorem TO:R.cR (.n .o (.n (.n (.n .o (.n (.n (.n .o (.n (.n (.n .o (.n (.n .o .a) .o)) .o) .o)) .o) .o)) .o) .o)) (ak Tryz.prog Φ7 ah aH tE tF)=true:=by kernel_rfl
theorem TP:R.cR (.n .o (.n (.n (.n .o (.n (.n .o .a) .a)) (.n (.n .a .o) .o)) .o)) (ak Tryz.prog Φ7 ah aH (lA false) (lB false))=true:=by kernel_rfl
theorem TQ:R.cR (.n (.n (.n (.n .o (.n (.n .o (.n (.n .o (.n (.n .o (.n .o (.n (.n .o (.n .a .o)) .o))) .o)) .o)) .o)) .o) .o) .o) (ak Tryz.prog Φ7 ah aH gM gN)=true:=by kernel_rfl
theorem Qc:R.cR (.n (.n .o (.n (.n .o (.n (.n (.n .o (.n (.n .o (.n .o (.n .o (.n .o (.n (.n .o (.n .a .o)) .o))))) .o)) .o) .o)) .o)) .o) (ak Tryz.prog Φ7 ah aH gM gN)=true:=by kernel_rfl
theorem Qd:R.cR (.n (.n .o (.n (.n .o (.n (.n (.n .o (.n (.n .o (.n .o (.n (.n .o (.n .o .a)) (.n (.n .a .o) .o)))) .o)) .o) .o)) .o)) .o) (ak Tryz.prog Φ7 ah aH gM gN)=true:=by kernel_rfl
theorem TR:R.cR (.n (.n (.n (.n .o (.n (.n .o (.n (.n .o (.n .o (.n (.n .o (.n (.n .o (.n .a .o)) .o)) .o))) .o)) .o)) .o) .o) .o) (ak Tryz.prog Φ7 ah aH gM gN)=true:=by kernel_rfl
theorem V9:R.okB (ak Tryz.prog Φ7 ah aH Nu Nv)=true:=by kernel_rfl
theorem Yz:R.okB (ak Tryz.prog Φ7 ah aH (C5 0) (pI 152 4))=true:=by kernel_rfl
end Go.Rd
