/- Part Xk6 of the proof of FragsEnds: no condition. -/
import Derived.Test.YtmabojcaklojhaaGreatXj
namespace Go.Rd
open Go.aQ Go.RowKit Go.Rt Go.Proofs
set_option maxRecDepth 100000
theorem T7:R.cR (.n .o (.n (.n (.n .o (.n (.n (.n .o (.n (.n (.n .o (.n (.n .a .o) .o)) .o) .o)) .o) .o)) .o) .o)) (ak Tryz.prog Φ7 ah aH tE tF)=true:=by kernel_rfl
theorem QE:R.cR (.n .o .a) (ak Tryz.prog Φ7 ah aH Df (eY 332))=true:=by kernel_rfl
theorem T8:R.cR (.n (.n (.n (.n .o (.n (.n .o (.n (.n .o (.n (.n .o (.n .o (.n .o (.n .a .o)))) .o)) .o)) .o)) .o) .o) .o) (ak Tryz.prog Φ7 ah aH gM gN)=true:=by kernel_rfl
theorem QF:R.cR (.n .o (.n .o .a)) (ak Tryz.prog Φ7 ah aH (zB false) zC)=true:=by kernel_rfl
theorem T9:R.cR (.n .o (.n (.n (.n .o (.n (.n (.n .o (.n (.n (.n (.n .o .a) .o) .o) .o)) .o) .o)) .o) .o)) (ak Tryz.prog Φ7 ah aH tE tF)=true:=by kernel_rfl
theorem k2:R.okB (ak Tryz.prog Φ7 ah aH Sn So)=true:=by kernel_rfl
theorem Xg:R.okB (ak Tryz.prog Φ7 ah aH NR (eY 133))=true:=by kernel_rfl
end Go.Rd
