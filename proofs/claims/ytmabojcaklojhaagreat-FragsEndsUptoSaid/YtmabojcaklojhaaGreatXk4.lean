/- Part Xk4 of the proof of FragsEnds: no condition. -/
import Derived.Test.YtmabojcaklojhaaGreatXj
namespace Go.Rd
open Go.aQ Go.RowKit Go.Rt Go.Proofs
set_option maxRecDepth 100000
theorem Xb:R.okB (ak Tryz.prog Φ7 ah aH (LL false) (LM false))=true:=by kernel_rfl
theorem T6:R.cR (.n .o (.n (.n (.n .o (.n (.n (.n (.n .o (.n (.n .o (.n .o (.n (.n .o (.n (.n (.n .a .o) .o) .o)) .o))) .o)) .o) .o) .o)) .o) .o)) (ak Tryz.prog Φ7 ah aH tE tF)=true:=by kernel_rfl
theorem Xc:R.cR (.n .o (.n (.n (.n .o (.n (.n (.n (.n (.n (.n .o .a) .o) .o) .o) .o) .o)) .o) .o)) (ak Tryz.prog Φ7 ah aH tE tF)=true:=by kernel_rfl
theorem ZU:R.okB (ak Tryz.prog Φ7 ah aH (LN true) (LO true))=true:=by kernel_rfl
theorem Xd:R.cR (.n .o (.n (.n (.n .o (.n (.n (.n (.n .o (.n .o .a)) .a) .a) .o)) .o) .o)) (ak Tryz.prog Φ7 ah aH EF EG)=true:=by kernel_rfl
theorem k8:R.okB (ak Tryz.prog Φ7 ah aH (CK 0) CM)=true:=by kernel_rfl
end Go.Rd
