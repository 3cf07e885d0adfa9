/- Part Xk5 of the proof of FragsEnds: no condition. -/
import Derived.Test.YtmabojcaklojhaaGreatXj
namespace Go.Rd
open Go.aQ Go.RowKit Go.Rt Go.Proofs
set_option maxRecDepth 100000
theorem Xe:R.cR (.n .a (.n (.n (.n .a (.n (.n (.n (.n .a .o) .o) .o) .o)) .o) .o)) (ak Tryz.prog Φ7 ah aH EF EG)=true:=by kernel_rfl
theorem QB:R.cR (.n .o (.n (.n (.n (.n (.n .o (.n (.n .o (.n (.n .o (.n .o (.n (.n .o .a) .o))) .o)) .o)) .o) .o) .o) .o)) (ak Tryz.prog Φ7 ah aH (qv false) qw)=true:=by kernel_rfl
theorem QC:R.cR (.n .o (.n (.n (.n (.n (.n .o (.n (.n .o (.n (.n .o (.n (.n (.n (.n .o .a) .o) .o) .o)) .o)) .o)) .o) .o) .o) .o)) (ak Tryz.prog Φ7 ah aH (qv false) qw)=true:=by kernel_rfl
theorem QD:R.cR (.n .o (.n .o (.n .o (.n .o (.n (.n .a .o) .o))))) (ak Tryz.prog Φ7 ah aH vE vF)=true:=by kernel_rfl
theorem Xf:R.cR (.n .a (.n (.n (.n .a (.n (.n (.n (.n (.n (.n (.n .a .o) .o) .o) .o) .o) .o) .o)) .o) .o)) (ak Tryz.prog Φ7 ah aH tE tF)=true:=by kernel_rfl
theorem k6:R.okB (ak Tryz.prog Φ7 ah aH XV XW)=true:=by kernel_rfl
end Go.Rd
