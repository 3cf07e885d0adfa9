/- Part Xk3 of the proof of FragsEnds: no condition. -/
import Derived.Test.YtmabojcaklojhaaGreatXj
namespace Go.Rd
open Go.aQ Go.RowKit Go.Rt Go.Proofs
set_option maxRecDepth 100000
theorem T4:R.cR (.n (.n (.n .a (.n .a (.n .a (.n .a (.n .a (.n .a (.n .a (.n .a (.n .a .o))))))))) .o) .o) (ak Tryz.prog Φ7 ah aH Jm Jn)=true:=by kernel_rfl
theorem ZT:R.okB (ak Tryz.prog Φ7 ah aH (vB true) (vC true))=true:=by kernel_rfl
theorem Qz:R.cR (.n .a (.n .a (.n .a (.n .a .o)))) (ak Tryz.prog Φ7 ah aH vE vF)=true:=by kernel_rfl
theorem QA:R.cR (.n .a (.n (.n (.n (.n (.n .a (.n (.n .a (.n (.n .a (.n (.n (.n (.n .a (.n .a .o)) .o) .o) .o)) .o)) .o)) .o) .o) .o) .o)) (ak Tryz.prog Φ7 ah aH (qv true) qw)=true:=by kernel_rfl
theorem T5:R.cR (.n .a (.n (.n (.n .a (.n (.n .a .o) .o)) .o) .o)) (ak Tryz.prog Φ7 ah aH (lA false) (lB false))=true:=by kernel_rfl
theorem Xa:R.okB (ak Tryz.prog Φ7 ah aH Tt (bM 19))=true:=by kernel_rfl
end Go.Rd
