/- Part Xk7 of the proof of FragsEnds: no condition. -/
import Derived.Test.YtmabojcaklojhaaGreatXj
namespace Go.Rd
open Go.aQ Go.RowKit Go.Rt Go.Proofs
set_option maxRecDepth 100000
theorem QG:R.cR (.n .a .o) (ak Tryz.prog Φ7 ah aH Df (eY 332))=true:=by kernel_rfl
theorem Ua:R.cR (.n (.n (.n (.n .o (.n (.n .o (.n (.n .o (.n (.n .o (.n (.n (.n .o (.n .o .a)) .a) (.n (.n .a .o) .o))) .o)) .o)) .o)) .o) .o) .o) (ak Tryz.prog Φ7 ah aH gM gN)=true:=by kernel_rfl
theorem Ub:R.cR (.n .o (.n (.n (.n .o (.n (.n (.n (.n .o (.n (.n .o (.n (.n .a .o) .o)) .o)) .o) .o) .o)) .o) .o)) (ak Tryz.prog Φ7 ah aH tE tF)=true:=by kernel_rfl
theorem QH:R.cR (.n (.n .o (.n (.n .o (.n (.n (.n .o (.n (.n .o (.n (.n .o (.n .o (.n .o (.n .a .o)))) .o)) .o)) .o) .o)) .o)) .o) (ak Tryz.prog Φ7 ah aH gM gN)=true:=by kernel_rfl
theorem Xh:R.cR (.n .o (.n (.n (.n .o (.n (.n (.n (.n .o (.n .a .o)) .o) .o) .o)) .o) .o)) (ak Tryz.prog Φ7 ah aH EF EG)=true:=by kernel_rfl
theorem QI:R.cR (.n (.n .o (.n (.n .o (.n (.n (.n .o (.n (.n .o (.n (.n .o (.n .o (.n .o (.n .o .a)))) (.n (.n .a (.n (.n .a .o) .o)) .o))) .o)) .o) .o)) .o)) .o) (ak Tryz.prog Φ7 ah aH gM gN)=true:=by kernel_rfl
end Go.Rd
