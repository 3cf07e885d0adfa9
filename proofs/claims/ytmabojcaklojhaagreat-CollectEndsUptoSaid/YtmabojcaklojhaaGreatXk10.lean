/- Part Xk10 of the proof of CollectEnds: no condition. -/
import Derived.Test.YtmabojcaklojhaaGreatXj
namespace Go.Rd
open Go.aI Go.RowKit Go.Rt Go.Proofs
set_option maxRecDepth 100000
theorem k58:R.okB (az Tryz.prog Φ7 aj aU R9 (cj 85))=true:=by kernel_rfl
theorem k103:R.okB (az Tryz.prog Φ7 aj aU (E3 0) (cj 100))=true:=by kernel_rfl
theorem k117:R.okB (az Tryz.prog Φ7 aj aU (Mp 60) (cj 54))=true:=by kernel_rfl
theorem k100:R.okB (az Tryz.prog Φ7 aj aU (Mp 0) (cj 54))=true:=by kernel_rfl
theorem k118:R.okB (az Tryz.prog Φ7 aj aU (EZ 60) (cj 153))=true:=by kernel_rfl
theorem k101:R.okB (az Tryz.prog Φ7 aj aU (EZ 0) (cj 153))=true:=by kernel_rfl
theorem k78:R.okB (az Tryz.prog Φ7 aj aU J0 (cj 122))=true:=by kernel_rfl
theorem k2:R.okB (az Tryz.prog Φ7 aj aU (MH false) MI)=true:=by kernel_rfl
theorem k59:R.okB (az Tryz.prog Φ7 aj aU Sa (cj 86))=true:=by kernel_rfl
theorem k22:R.okB (az Tryz.prog Φ7 aj aU N1 (kC 321))=true:=by kernel_rfl
theorem k18:R.okB (az Tryz.prog Φ7 aj aU NV (kC 320))=true:=by kernel_rfl
theorem k36:R.okB (az Tryz.prog Φ7 aj aU J3 (kC 128))=true:=by kernel_rfl
theorem k39:R.okB (az Tryz.prog Φ7 aj aU N8 N9)=true:=by kernel_rfl
theorem k20:R.okB (az Tryz.prog Φ7 aj aU NY (kC 322))=true:=by kernel_rfl
theorem k3:R.okB (az Tryz.prog Φ7 aj aU Oa (kC 129))=true:=by kernel_rfl
theorem k62:R.okB (az Tryz.prog Φ7 aj aU Sh (cj 89))=true:=by kernel_rfl
theorem k79:R.okB (az Tryz.prog Φ7 aj aU NJ (cj 122))=true:=by kernel_rfl
theorem k27:R.okB (az Tryz.prog Φ7 aj aU Tf (kC 60))=true:=by kernel_rfl
end Go.Rd
