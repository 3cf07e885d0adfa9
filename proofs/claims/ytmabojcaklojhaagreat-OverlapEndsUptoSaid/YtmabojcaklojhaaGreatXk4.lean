/- Part Xk4 of the proof of OverlapEnds: no condition. -/
import Derived.Test.YtmabojcaklojhaaGreatXj
namespace Go.Rd
open Go.aK Go.RowKit Go.Rt Go.Proofs
set_option maxRecDepth 100000
theorem Sj:R.dL (.n .a (.n (.n (.n .a (.n .a .o)) .o) .o)) (al Tryz.prog Φ7 ai aH L9 Ma)=true:=by kernel_rfl
theorem VK:R.dL (.n .o (.n (.n (.n .o .a) .o) .o)) (al Tryz.prog Φ7 ai aH (oM true) (oN true))=true:=by kernel_rfl
theorem VL:R.dL (.n .o (.n (.n .o .a) .a)) (al Tryz.prog Φ7 ai aH (oM false) (oN false))=true:=by kernel_rfl
theorem VM:R.dL (.n .a (.n (.n .a .o) .o)) (al Tryz.prog Φ7 ai aH (sG true) (sH true))=true:=by kernel_rfl
theorem VN:R.dL (.n (.n (.n .a (.n .a (.n .a (.n .a (.n .a (.n .a .o)))))) .o) .o) (al Tryz.prog Φ7 ai aH LL LM)=true:=by kernel_rfl
end Go.Rd
