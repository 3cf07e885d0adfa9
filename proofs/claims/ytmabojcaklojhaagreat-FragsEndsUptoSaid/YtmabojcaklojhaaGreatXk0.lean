/- Part Xk0 of the proof of FragsEnds: no condition. -/
import Derived.Test.YtmabojcaklojhaaGreatXj
namespace Go.Rd
open Go.aQ Go.RowKit Go.Rt Go.Proofs
set_option maxRecDepth 100000
theorem V5:R.okB (ak Tryz.prog Φ7 ah aH (LN false) (LO false))=true:=by kernel_rfl
theorem V6:R.cR (.n .o (.n (.n (.n .o (.n (.n (.n (.n (.n .o (.n (.n .a .o) .o)) .o) .o) .o) .o)) .o) .o)) (ak Tryz.prog Φ7 ah aH tE tF)=true:=by kernel_rfl
theorem TK:R.cR (.n .o (.n (.n .o (.n (.n .o (.n (.n (.n .o .a) .a) .a)) .a)) .a)) (ak Tryz.prog Φ7 ah aH (lA false) (lB false))=true:=by kernel_rfl
theorem V7:R.cR (.n .o (.n (.n (.n .o (.n (.n (.n (.n .o (.n (.n (.n .o (.n (.n .o .a) .a)) .o) .o)) .o) .o) .o)) .o) .o)) (ak Tryz.prog Φ7 ah aH tE tF)=true:=by kernel_rfl
theorem TL:R.cR (.n .o (.n (.n .o (.n (.n .o (.n (.n .a .o) .o)) .o)) .o)) (ak Tryz.prog Φ7 ah aH (lA true) (lB true))=true:=by kernel_rfl
end Go.Rd
