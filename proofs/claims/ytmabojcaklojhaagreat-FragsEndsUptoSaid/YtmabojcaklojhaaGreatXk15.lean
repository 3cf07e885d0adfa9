/- Part Xk15 of the proof of FragsEnds: no condition. -/
import Derived.Test.YtmabojcaklojhaaGreatXj
namespace Go.Rd
open Go.aQ Go.RowKit Go.Rt Go.Proofs
set_option maxRecDepth 100000
theorem Wh:R.okB (ak Tryz.prog Φ7 ah aH TA TB)=true:=by kernel_rfl
theorem Qt:R.cR (.n .o (.n (.n (.n (.n (.n .o (.n (.n .o (.n (.n .o (.n .o (.n .o .a))) .a)) .a)) .a) .a) .a) .a)) (ak Tryz.prog Φ7 ah aH (qv false) qw)=true:=by kernel_rfl
theorem k0:R.okB (ak Tryz.prog Φ7 ah aH Sk Sm)=true:=by kernel_rfl
theorem Qu:R.cR (.n .a (.n (.n (.n (.n (.n .a (.n (.n .a (.n (.n .a (.n (.n (.n (.n .a .o) .o) .o) .o)) .o)) .o)) .o) .o) .o) .o)) (ak Tryz.prog Φ7 ah aH (qv false) qw)=true:=by kernel_rfl
theorem Wi:R.okB (ak Tryz.prog Φ7 ah aH Tu Tv)=true:=by kernel_rfl
theorem Wj:R.okB (ak Tryz.prog Φ7 ah aH ND (eY 326))=true:=by kernel_rfl
theorem YD:R.okB (ak Tryz.prog Φ7 ah aH S3 S4)=true:=by kernel_rfl
theorem Wk:R.cR (.n .o (.n (.n (.n .o (.n .o .a)) .a) .a)) (ak Tryz.prog Φ7 ah aH EF EG)=true:=by kernel_rfl
theorem Qv:R.cR (.n .a (.n .a .o)) (ak Tryz.prog Φ7 ah aH (zB false) zC)=true:=by kernel_rfl
theorem Qw:R.cR (.n .a (.n .a .o)) (ak Tryz.prog Φ7 ah aH (zB true) zC)=true:=by kernel_rfl
theorem Wl:R.okB (ak Tryz.prog Φ7 ah aH Ns Nt)=true:=by kernel_rfl
theorem YE:R.okB (ak Tryz.prog Φ7 ah aH (CU false) CV)=true:=by kernel_rfl
theorem YF:R.okB (ak Tryz.prog Φ7 ah aH (CU true) CV)=true:=by kernel_rfl
theorem YG:R.okB (ak Tryz.prog Φ7 ah aH (Lv 0) Lw)=true:=by kernel_rfl
theorem YH:R.okB (ak Tryz.prog Φ7 ah aH (Lv 20) Lw)=true:=by kernel_rfl
theorem YI:R.okB (ak Tryz.prog Φ7 ah aH (Db true) (Dc true))=true:=by kernel_rfl
theorem YJ:R.okB (ak Tryz.prog Φ7 ah aH (Dd true) (De true))=true:=by kernel_rfl
theorem Wm:R.okB (ak Tryz.prog Φ7 ah aH Nw Nx)=true:=by kernel_rfl
theorem Wn:R.okB (ak Tryz.prog Φ7 ah aH (Db false) (Dc false))=true:=by kernel_rfl
theorem YK:R.okB (ak Tryz.prog Φ7 ah aH (Ls 0) Lu)=true:=by kernel_rfl
theorem JE:R.okB (ak Tryz.prog Φ7 ah aH (CN 0) CO)=true:=by kernel_rfl
theorem Wo:R.okB (ak Tryz.prog Φ7 ah aH Np Nq)=true:=by kernel_rfl
theorem k1:R.okB (ak Tryz.prog Φ7 ah aH MQ MR)=true:=by kernel_rfl
theorem YL:R.okB (ak Tryz.prog Φ7 ah aH MX (bM 449))=true:=by kernel_rfl
end Go.Rd
