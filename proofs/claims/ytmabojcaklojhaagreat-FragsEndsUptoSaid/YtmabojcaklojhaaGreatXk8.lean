/- Part Xk8 of the proof of FragsEnds: no condition. -/
import Derived.Test.YtmabojcaklojhaaGreatXj
namespace Go.Rd
open Go.aQ Go.RowKit Go.Rt Go.Proofs
set_option maxRecDepth 100000
theorem Xi:R.cR (.n .o (.n (.n (.n .o (.n (.n (.n (.n (.n .o (.n (.n .o .a) .o)) .o) .o) .o) .o)) .o) .o)) (ak Tryz.prog Φ7 ah aH tE tF)=true:=by kernel_rfl
theorem Uc:R.cR (.n .o (.n (.n (.n .o (.n (.n (.n .o (.n (.n (.n (.n (.n .a .o) .o) .o) .o) .o)) .o) .o)) .o) .o)) (ak Tryz.prog Φ7 ah aH tE tF)=true:=by kernel_rfl
theorem Xj:R.cR (.n .o (.n (.n (.n .o (.n (.n (.n (.n (.n .o (.n .o (.n (.n .a .o) .o))) .o) .o) .o) .o)) .o) .o)) (ak Tryz.prog Φ7 ah aH tE tF)=true:=by kernel_rfl
theorem Ud:R.cR (.n (.n (.n (.n .o (.n (.n .o (.n (.n .o (.n .o (.n .o (.n (.n .o (.n .a .o)) .o)))) .o)) .o)) .o) .o) .o) (ak Tryz.prog Φ7 ah aH gM gN)=true:=by kernel_rfl
theorem QJ:R.cR (.n (.n .o (.n (.n .o (.n (.n (.n .o (.n (.n .o (.n .o (.n .o (.n (.n .o (.n .a .o)) .o)))) .o)) .o) .o)) .o)) .o) (ak Tryz.prog Φ7 ah aH gM gN)=true:=by kernel_rfl
theorem QK:R.cR (.n (.n .o (.n (.n .o (.n (.n (.n .o (.n (.n .o (.n (.n .o (.n (.n (.n .o (.n .a .o)) .o) .o)) .o)) .o)) .o) .o)) .o)) .o) (ak Tryz.prog Φ7 ah aH gM gN)=true:=by kernel_rfl
end Go.Rd
