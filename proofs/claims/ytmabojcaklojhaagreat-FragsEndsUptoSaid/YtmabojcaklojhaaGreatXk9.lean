/- Part Xk9 of the proof of FragsEnds: no condition. -/
import Derived.Test.YtmabojcaklojhaaGreatXj
namespace Go.Rd
open Go.aQ Go.RowKit Go.Rt Go.Proofs
set_option maxRecDepth 100000
theorem QL:R.cR (.n .o (.n .o (.n .o (.n .o (.n (.n .o (.n .a .o)) .o))))) (ak Tryz.prog Φ7 ah aH vE vF)=true:=by kernel_rfl
theorem Ue:R.cR (.n (.n (.n (.n .a (.n (.n .a (.n (.n .a (.n (.n .a (.n (.n (.n .a (.n .a .o)) .o) .o)) .o)) .o)) .o)) .o) .o) .o) (ak Tryz.prog Φ7 ah aH gM gN)=true:=by kernel_rfl
theorem Uf:R.cR (.n (.n (.n (.n .o (.n (.n .o (.n (.n .o (.n .o (.n (.n .o (.n .o .a)) (.n (.n .a .o) .o)))) .o)) .o)) .o) .o) .o) (ak Tryz.prog Φ7 ah aH gM gN)=true:=by kernel_rfl
theorem QM:R.cR (.n .o (.n (.n (.n (.n (.n .o (.n (.n .o (.n (.n .o (.n (.n (.n (.n .o (.n .o .a)) .a) .a) .o)) .o)) .o)) .o) .o) .o) .o)) (ak Tryz.prog Φ7 ah aH (qv true) qw)=true:=by kernel_rfl
theorem Ug:R.cR (.n .a (.n (.n (.n .a (.n (.n .a .o) .o)) .o) .o)) (ak Tryz.prog Φ7 ah aH (lA true) (lB true))=true:=by kernel_rfl
theorem Xk:R.cR (.n .o (.n (.n (.n .o (.n (.n (.n (.n (.n (.n (.n .o .a) .o) .o) .o) .o) .o) .o)) .o) .o)) (ak Tryz.prog Φ7 ah aH tE tF)=true:=by kernel_rfl
theorem Xl:R.okB (ak Tryz.prog Φ7 ah aH (Dd false) (De false))=true:=by kernel_rfl
theorem ZV:R.okB (ak Tryz.prog Φ7 ah aH SQ (bM 93))=true:=by kernel_rfl
end Go.Rd
