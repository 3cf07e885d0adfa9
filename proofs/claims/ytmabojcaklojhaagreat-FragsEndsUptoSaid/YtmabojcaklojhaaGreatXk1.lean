/- Part Xk1 of the proof of FragsEnds: no condition. -/
import Derived.Test.YtmabojcaklojhaaGreatXj
namespace Go.Rd
open Go.aQ Go.RowKit Go.Rt Go.Proofs
set_option maxRecDepth 100000
theorem Qa:R.cR (.n .o (.n (.n (.n (.n (.n .o (.n (.n .o (.n (.n .o (.n .o (.n (.n .o (.n .o .a)) .a))) .a)) .a)) .a) .a) .a) .a)) (ak Tryz.prog Φ7 ah aH (qv true) qw)=true:=by kernel_rfl
theorem TM:R.cR (.n .o (.n (.n (.n .o (.n (.n (.n (.n .o (.n (.n .o (.n (.n .o .a) (.n (.n .a .o) .o))) .o)) .o) .o) .o)) .o) .o)) (ak Tryz.prog Φ7 ah aH tE tF)=true:=by kernel_rfl
theorem Qb:R.cR (.n .o (.n .o .a)) (ak Tryz.prog Φ7 ah aH (zB true) zC)=true:=by kernel_rfl
theorem TN:R.cR (.n .o (.n (.n (.n .o (.n (.n (.n .o (.n (.n (.n .o (.n .o .a)) .a) .a)) .o) .o)) .o) .o)) (ak Tryz.prog Φ7 ah aH tE tF)=true:=by kernel_rfl
theorem V8:R.okB (ak Tryz.prog Φ7 ah aH NH NI)=true:=by kernel_rfl
end Go.Rd
