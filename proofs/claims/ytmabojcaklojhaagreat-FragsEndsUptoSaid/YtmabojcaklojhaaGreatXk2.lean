/- Part Xk2 of the proof of FragsEnds: no condition. -/
import Derived.Test.YtmabojcaklojhaaGreatXj
namespace Go.Rd
open Go.aQ Go.RowKit Go.Rt Go.Proofs
set_option maxRecDepth 100000
theorem W9:R.cR (.n .o (.n (.n (.n .o (.n (.n (.n (.n .o (.n (.n (.n .a .o) .o) .o)) .o) .o) .o)) .o) .o)) (ak Tryz.prog Φ7 ah aH tE tF)=true:=by kernel_rfl
theorem Qx:R.cR (.n (.n .a (.n (.n .a (.n .a (.n (.n (.n (.n .a (.n .a (.n .a (.n (.n (.n (.n .a (.n .a (.n (.n .a (.n (.n .a (.n .a (.n .a (.n .a .o)))) .o)) .o))) .o) .o) .o)))) .o) .o) .o))) .o)) .o) (ak Tryz.prog Φ7 ah aH Dg Dh)=true:=by kernel_rfl
theorem ZS:R.okB (ak Tryz.prog Φ7 ah aH SH SI)=true:=by kernel_rfl
theorem T3:R.cR (.n (.n (.n .o (.n .o (.n .o (.n .o (.n .o (.n .o (.n .o (.n .o (.n .o (.n .o .a)))))))))) .a) .a) (ak Tryz.prog Φ7 ah aH Jm Jn)=true:=by kernel_rfl
theorem Qy:R.cR (.n .o (.n (.n (.n (.n (.n .o (.n (.n .o (.n (.n .o (.n .o (.n (.n .a (.n .a .o)) .o))) .o)) .o)) .o) .o) .o) .o)) (ak Tryz.prog Φ7 ah aH (qv true) qw)=true:=by kernel_rfl
end Go.Rd
