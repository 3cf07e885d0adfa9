/- Part Xk18 of the proof of OverlapEnds: no condition. -/
import Derived.Test.YtmabojcaklojhaaGreatXj
namespace Go.Rd
open Go.aK Go.RowKit Go.Rt Go.Proofs
set_option maxRecDepth 100000
theorem k38:R.okB (al Tryz.prog Φ7 ai aH (EE true) (cw 154))=true:=by kernel_rfl
theorem k39:R.okB (al Tryz.prog Φ7 ai aH (EE false) (cw 154))=true:=by kernel_rfl
theorem YW:R.okB (al Tryz.prog Φ7 ai aH Vs (fM 80))=true:=by kernel_rfl
theorem YX:R.okB (al Tryz.prog Φ7 ai aH UW (cw 51))=true:=by kernel_rfl
theorem k23:R.okB (al Tryz.prog Φ7 ai aH UA (cw 93))=true:=by kernel_rfl
theorem k44:R.okB (al Tryz.prog Φ7 ai aH Nz (cw 345))=true:=by kernel_rfl
theorem k26:R.okB (al Tryz.prog Φ7 ai aH UF UG)=true:=by kernel_rfl
theorem k77:R.okB (al Tryz.prog Φ7 ai aH (LY 60) (cw 97))=true:=by kernel_rfl
theorem YY:R.okB (al Tryz.prog Φ7 ai aH N1 (iJ 136))=true:=by kernel_rfl
theorem k60:R.okB (al Tryz.prog Φ7 ai aH (LY 0) (cw 97))=true:=by kernel_rfl
theorem k73:R.okB (al Tryz.prog Φ7 ai aH (EP 60) (cw 102))=true:=by kernel_rfl
theorem k56:R.okB (al Tryz.prog Φ7 ai aH (EP 0) (cw 102))=true:=by kernel_rfl
theorem k7:R.okB (al Tryz.prog Φ7 ai aH (EB 20) (cw 149))=true:=by kernel_rfl
theorem k75:R.okB (al Tryz.prog Φ7 ai aH (LW 60) (cw 99))=true:=by kernel_rfl
theorem k6:R.okB (al Tryz.prog Φ7 ai aH (EB 0) (cw 149))=true:=by kernel_rfl
theorem k99:R.okB (al Tryz.prog Φ7 ai aH US (cw 13))=true:=by kernel_rfl
theorem k42:R.okB (al Tryz.prog Φ7 ai aH Nx (cw 449))=true:=by kernel_rfl
theorem YZ:R.okB (al Tryz.prog Φ7 ai aH O0 (fM 215))=true:=by kernel_rfl
theorem Y0:R.okB (al Tryz.prog Φ7 ai aH NY (iJ 336))=true:=by kernel_rfl
theorem Y1:R.okB (al Tryz.prog Φ7 ai aH On Oo)=true:=by kernel_rfl
theorem k46:R.okB (al Tryz.prog Φ7 ai aH (LR 0) (cw 53))=true:=by kernel_rfl
theorem k27:R.okB (al Tryz.prog Φ7 ai aH UH (cw 95))=true:=by kernel_rfl
theorem Y2:R.okB (al Tryz.prog Φ7 ai aH U0 (cw 21))=true:=by kernel_rfl
theorem k63:R.okB (al Tryz.prog Φ7 ai aH (LR 60) (cw 53))=true:=by kernel_rfl
theorem Y3:R.okB (al Tryz.prog Φ7 ai aH NP (iJ 206))=true:=by kernel_rfl
theorem k50:R.okB (al Tryz.prog Φ7 ai aH (EK 0) (cw 111))=true:=by kernel_rfl
theorem Y4:R.okB (al Tryz.prog Φ7 ai aH NT (iJ 335))=true:=by kernel_rfl
theorem k67:R.okB (al Tryz.prog Φ7 ai aH (EK 60) (cw 111))=true:=by kernel_rfl
theorem Y5:R.okB (al Tryz.prog Φ7 ai aH EY NH)=true:=by kernel_rfl
theorem k47:R.okB (al Tryz.prog Φ7 ai aH (EH 0) (cw 109))=true:=by kernel_rfl
theorem k79:R.okB (al Tryz.prog Φ7 ai aH (L0 60) (cw 49))=true:=by kernel_rfl
theorem Y6:R.okB (al Tryz.prog Φ7 ai aH UT UU)=true:=by kernel_rfl
theorem k62:R.okB (al Tryz.prog Φ7 ai aH (L0 0) (cw 49))=true:=by kernel_rfl
theorem k64:R.okB (al Tryz.prog Φ7 ai aH (EH 60) (cw 109))=true:=by kernel_rfl
theorem Y7:R.okB (al Tryz.prog Φ7 ai aH NQ (iJ 213))=true:=by kernel_rfl
theorem k97:R.okB (al Tryz.prog Φ7 ai aH UR (cw 12))=true:=by kernel_rfl
theorem Y8:R.okB (al Tryz.prog Φ7 ai aH O6 (fM 214))=true:=by kernel_rfl
theorem JS:R.okB (al Tryz.prog Φ7 ai aH Uj (cw 85))=true:=by kernel_rfl
theorem k69:R.okB (al Tryz.prog Φ7 ai aH (LU 60) (cw 54))=true:=by kernel_rfl
theorem Y9:R.okB (al Tryz.prog Φ7 ai aH (Mh true) Mi)=true:=by kernel_rfl
theorem k52:R.okB (al Tryz.prog Φ7 ai aH (LU 0) (cw 54))=true:=by kernel_rfl
theorem Za:R.okB (al Tryz.prog Φ7 ai aH (Mk true) (fM 36))=true:=by kernel_rfl
theorem k72:R.okB (al Tryz.prog Φ7 ai aH (EO 60) (cw 100))=true:=by kernel_rfl
theorem k55:R.okB (al Tryz.prog Φ7 ai aH (EO 0) (cw 100))=true:=by kernel_rfl
theorem Zb:R.okB (al Tryz.prog Φ7 ai aH (Mj true) (fM 35))=true:=by kernel_rfl
theorem Zc:R.okB (al Tryz.prog Φ7 ai aH NR (iJ 438))=true:=by kernel_rfl
theorem k53:R.okB (al Tryz.prog Φ7 ai aH (EM 0) (cw 153))=true:=by kernel_rfl
theorem k70:R.okB (al Tryz.prog Φ7 ai aH (EM 60) (cw 153))=true:=by kernel_rfl
theorem k30:R.okB (al Tryz.prog Φ7 ai aH JH (cw 122))=true:=by kernel_rfl
theorem Zd:R.okB (al Tryz.prog Φ7 ai aH NX (iJ 137))=true:=by kernel_rfl
theorem Ze:R.okB (al Tryz.prog Φ7 ai aH Pc (fM 83))=true:=by kernel_rfl
theorem Zf:R.okB (al Tryz.prog Φ7 ai aH (Mg true) (fM 33))=true:=by kernel_rfl
theorem Zg:R.okB (al Tryz.prog Φ7 ai aH (Mf true) (fM 32))=true:=by kernel_rfl
theorem TO:R.okB (al Tryz.prog Φ7 ai aH Uk (cw 86))=true:=by kernel_rfl
theorem Zh:R.okB (al Tryz.prog Φ7 ai aH NW (iJ 207))=true:=by kernel_rfl
theorem k14:R.okB (al Tryz.prog Φ7 ai aH Up (cw 89))=true:=by kernel_rfl
theorem Zi:R.okB (al Tryz.prog Φ7 ai aH NN (iJ 342))=true:=by kernel_rfl
theorem k98:R.okB (al Tryz.prog Φ7 ai aH NG (cw 12))=true:=by kernel_rfl
theorem Zj:R.okB (al Tryz.prog Φ7 ai aH NO (iJ 506))=true:=by kernel_rfl
theorem k31:R.okB (al Tryz.prog Φ7 ai aH Nw (cw 122))=true:=by kernel_rfl
end Go.Rd
