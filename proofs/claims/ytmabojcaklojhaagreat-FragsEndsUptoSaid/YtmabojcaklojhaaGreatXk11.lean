/- Part Xk11 of the proof of FragsEnds: no condition. -/
import Derived.Test.YtmabojcaklojhaaGreatXj
namespace Go.Rd
open Go.aQ Go.RowKit Go.Rt Go.Proofs
set_option maxRecDepth 100000
theorem Qe:R.cR (.n (.n .o (.n (.n .o (.n (.n (.n .o (.n (.n .o (.n (.n .o (.n .o (.n (.n .o (.n .a .o)) .o))) .o)) .o)) .o) .o)) .o)) .o) (ak Tryz.prog Φ7 ah aH gM gN)=true:=by kernel_rfl
theorem TS:R.cR (.n .o (.n (.n (.n .o (.n (.n (.n (.n .o (.n (.n .o (.n .o (.n (.n .o (.n (.n (.n .o .a) .a) .a)) .a))) .a)) .o) .o) .o)) .o) .o)) (ak Tryz.prog Φ7 ah aH tE tF)=true:=by kernel_rfl
theorem Qf:R.cR (.n (.n .o (.n (.n .o (.n (.n (.n .o (.n (.n .o (.n .o (.n (.n .o (.n (.n .o (.n .a .o)) .o)) .o))) .o)) .o) .o)) .o)) .o) (ak Tryz.prog Φ7 ah aH gM gN)=true:=by kernel_rfl
theorem TT:R.cR (.n .o (.n (.n (.n .o (.n (.n (.n .o (.n (.n (.n (.n (.n .o .a) .o) .o) .o) .o)) .o) .o)) .o) .o)) (ak Tryz.prog Φ7 ah aH tE tF)=true:=by kernel_rfl
theorem Wa:R.cR (.n .o (.n (.n (.n .o (.n (.n (.n (.n (.n .o (.n .o (.n (.n .o .a) .a))) .o) .o) .o) .o)) .o) .o)) (ak Tryz.prog Φ7 ah aH tE tF)=true:=by kernel_rfl
theorem YA:R.okB (ak Tryz.prog Φ7 ah aH (LL true) (LM true))=true:=by kernel_rfl
theorem Qg:R.cR (.n (.n .o (.n (.n .o (.n (.n (.n .o (.n (.n .o (.n .o (.n .o (.n (.n .o (.n .o .a)) (.n (.n .a .o) .o))))) .o)) .o) .o)) .o)) .o) (ak Tryz.prog Φ7 ah aH gM gN)=true:=by kernel_rfl
theorem TU:R.cR (.n (.n (.n .o (.n .o (.n .o (.n .o (.n .o (.n .o (.n .o (.n .o (.n .o (.n .a .o)))))))))) .o) .o) (ak Tryz.prog Φ7 ah aH Jm Jn)=true:=by kernel_rfl
end Go.Rd
