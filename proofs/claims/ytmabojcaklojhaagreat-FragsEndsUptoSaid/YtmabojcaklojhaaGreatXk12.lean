/- Part Xk12 of the proof of FragsEnds: no condition. -/
import Derived.Test.YtmabojcaklojhaaGreatXj
namespace Go.Rd
open Go.aQ Go.RowKit Go.Rt Go.Proofs
set_option maxRecDepth 100000
theorem Qh:R.cR (.n (.n (.n (.n .o (.n (.n .o (.n (.n .o (.n .o (.n .o (.n (.n .o (.n .o .a)) (.n (.n .a .o) .o))))) .o)) .o)) .o) .o) .o) (ak Tryz.prog Φ7 ah aH gM gN)=true:=by kernel_rfl
theorem Qi:R.cR (.n (.n .o (.n (.n .o (.n .o (.n (.n (.n (.n .o (.n .o (.n .o (.n (.n (.n (.n .o (.n .o (.n (.n .o (.n (.n .o (.n .o (.n .o (.n .o .a)))) .a)) .a))) .a) .a) .a)))) .a) .a) .a))) .a)) .a) (ak Tryz.prog Φ7 ah aH Dg Dh)=true:=by kernel_rfl
theorem Qj:R.cR (.n (.n .o (.n (.n .o (.n (.n (.n .o (.n (.n .o (.n .o (.n (.n .o (.n (.n .o (.n .o .a)) .o)) .o))) .o)) .o) .o)) .o)) .o) (ak Tryz.prog Φ7 ah aH gM gN)=true:=by kernel_rfl
theorem TV:R.cR (.n (.n (.n (.n .o (.n (.n .o (.n (.n .o (.n (.n .o (.n .o (.n (.n .o (.n .o .a)) .o))) .o)) .o)) .o)) .o) .o) .o) (ak Tryz.prog Φ7 ah aH gM gN)=true:=by kernel_rfl
theorem Qk:R.cR (.n .a (.n (.n .a .o) .o)) (ak Tryz.prog Φ7 ah aH (vB false) (vC false))=true:=by kernel_rfl
theorem TW:R.cR (.n .o (.n (.n .o (.n (.n .o (.n (.n (.n .a .o) .o) .o)) .o)) .o)) (ak Tryz.prog Φ7 ah aH (lA false) (lB false))=true:=by kernel_rfl
theorem Wb:R.cR (.n .o (.n (.n (.n .o (.n (.n (.n (.n .o (.n (.n (.n .o (.n (.n .a .o) .o)) .o) .o)) .o) .o) .o)) .o) .o)) (ak Tryz.prog Φ7 ah aH tE tF)=true:=by kernel_rfl
theorem Wc:R.okB (ak Tryz.prog Φ7 ah aH Ny Nz)=true:=by kernel_rfl
end Go.Rd
