/- Part Xl of the proof of FragsEnds: no condition. -/
import Derived.Test.YtmabojcaklojhaaGreatXk0
import Derived.Test.YtmabojcaklojhaaGreatXk1
import Derived.Test.YtmabojcaklojhaaGreatXk2
import Derived.Test.YtmabojcaklojhaaGreatXk3
import Derived.Test.YtmabojcaklojhaaGreatXk4
import Derived.Test.YtmabojcaklojhaaGreatXk5
import Derived.Test.YtmabojcaklojhaaGreatXk6
import Derived.Test.YtmabojcaklojhaaGreatXk7
import Derived.Test.YtmabojcaklojhaaGreatXk8
import Derived.Test.YtmabojcaklojhaaGreatXk9
import Derived.Test.YtmabojcaklojhaaGreatXk10
import Derived.Test.YtmabojcaklojhaaGreatXk11
import Derived.Test.YtmabojcaklojhaaGreatXk12
import Derived.Test.YtmabojcaklojhaaGreatXk13
import Derived.Test.YtmabojcaklojhaaGreatXk14
import Derived.Test.YtmabojcaklojhaaGreatXk15
import Derived.Test.YtmabojcaklojhaaGreatXk16
namespace Go.Rd
open Go.aQ Go.RowKit Go.Rt Go.Proofs
theorem k5:R.okB (ak Tryz.prog Φ7 ah aH EF EG)=true:=eG (aF (aF (aF (Xe) Xh) Xd) Wk) (by rfl)
theorem k7:R.okB (ak Tryz.prog Φ7 ah aH tE tF)=true:=eG (aF (aF (aF (aF (aF (aF (aF (aF (aF (aF (aF (aF (aF (aF (aF (aF (aF (aF (aF (aF (Xf) Xk) Xc) V6) Xi) Xj) Wa) W9) Wb) V7) Ub) TM) T6) TS) Uc) TT) T9) T7) TO) TN) TY) (by rfl)
theorem ZW:R.okB (ak Tryz.prog Φ7 ah aH gM gN)=true:=eG (aF (aF (aF (aF (aF (aF (aF (aF (aF (aF (aF (aF (aF (aF (aF (aF (aF (aF (aF (aF (aF (aF (aF (aF (aF (Ue) Ua) TQ) TV) T8) TZ) TR) TX) Uf) Ud) Qh) Qn) Qr) QK) Qo) Qe) Qm) QH) QI) Qf) Qj) Qd) QJ) Qg) Qc) Qp) (by rfl)
theorem ZX:R.okB (ak Tryz.prog Φ7 ah aH Jm Jn)=true:=eG (aF (aF (T4) TU) T3) (by rfl)
theorem ZY:R.okB (ak Tryz.prog Φ7 ah aH (lA true) (lB true))=true:=eG (aF (aF (aF (Ug) T1) TL) T0) (by rfl)
theorem ZZ:R.okB (ak Tryz.prog Φ7 ah aH (lA false) (lB false))=true:=eG (aF (aF (aF (T5) TP) TW) TK) (by rfl)
theorem Xm:R.okB (ak Tryz.prog Φ7 ah aH (vB false) (vC false))=true:=eG (aF (Qk) Ql) (by rfl)
theorem Xn:R.okB (ak Tryz.prog Φ7 ah aH Df (eY 332))=true:=eG (aF (QG) QE) (by rfl)
theorem Xo:R.okB (ak Tryz.prog Φ7 ah aH Dg Dh)=true:=eG (aF (Qx) Qi) (by rfl)
theorem Xp:R.okB (ak Tryz.prog Φ7 ah aH vE vF)=true:=eG (aF (aF (aF (Qz) QD) QL) Qs) (by rfl)
theorem Xq:R.okB (ak Tryz.prog Φ7 ah aH (zB false) zC)=true:=eG (aF (Qv) QF) (by rfl)
theorem Xr:R.okB (ak Tryz.prog Φ7 ah aH (qv false) qw)=true:=eG (aF (aF (aF (aF (Qu) QC) Qq) QB) Qt) (by rfl)
theorem Xs:R.okB (ak Tryz.prog Φ7 ah aH (zB true) zC)=true:=eG (aF (Qw) Qb) (by rfl)
theorem Xt:R.okB (ak Tryz.prog Φ7 ah aH (qv true) qw)=true:=eG (aF (aF (aF (QA) QM) Qy) Qa) (by rfl)
set_option maxRecDepth 100000
theorem L3:∀e∈V4,R.okB (ak Tryz.prog Φ7 ah aH e.1 e.2)=true :=
 all_cons (p:=fun e:Sp × Gu=>R.okB (ak Tryz.prog Φ7 ah aH e.1 e.2)=true) k0<|all_cons k1<|all_cons k2<|all_cons k3<|all_cons k4<|all_cons k5<|all_cons k6<|all_cons k7<|all_cons k8<|all_cons k9<|all_cons JE<|all_cons RR<|all_cons Y1<|all_cons Y5<|all_cons Zt<|all_cons Zx<|all_cons YK<|all_cons YM<|all_cons ZH<|all_cons ZP<|all_cons Y6<|all_cons Y8<|all_cons ZQ<|all_cons Y3<|all_cons ZS<|all_cons ZW<|all_cons YG<|all_cons YH<|all_cons YP<|all_cons YS<|all_cons YC<|all_cons ZV<|all_cons Zb<|all_cons YB<|all_cons Zo<|all_cons Zy<|all_cons YD<|all_cons ZX<|all_cons ZO<|all_cons ZR<|all_cons Zh<|all_cons Zj<|all_cons Za<|all_cons Zc<|all_cons Zg<|all_cons Zf<|all_cons Zk<|all_cons Zm<|all_cons YF<|all_cons YE<|all_cons YL<|all_cons Zl<|all_cons Zw<|all_cons Y4<|all_cons ZC<|all_cons ZF<|all_cons YV<|all_cons YR<|all_cons ZB<|all_cons YT<|all_cons ZL<|all_cons ZN<|all_cons Yz<|all_cons ZI<|all_cons Zq<|all_cons YQ<|all_cons Zv<|all_cons YN<|all_cons Zp<|all_cons YU<|all_cons ZD<|all_cons ZA<|all_cons ZG<|all_cons YZ<|all_cons YY<|all_cons Zz<|all_cons YX<|all_cons ZJ<|all_cons ZM<|all_cons Y2<|all_cons ZK<|all_cons Zu<|all_cons YW<|all_cons Zs<|all_cons YO<|all_cons Zr<|all_cons Y0<|all_cons ZE<|all_cons Zi<|all_cons Ze<|all_cons Zd<|all_cons ZY<|all_cons YI<|all_cons YJ<|all_cons ZT<|all_cons YA<|all_cons ZU<|all_cons Y7<|all_cons Y9<|all_cons ZZ<|all_cons Wn<|all_cons Xl<|all_cons Xm<|all_cons Xb<|all_cons V5<|all_cons W0<|all_cons WO<|all_cons WT<|all_cons WZ<|all_cons WW<|all_cons WM<|all_cons Wt<|all_cons W1<|all_cons Wy<|all_cons Wz<|all_cons Ww<|all_cons Xa<|all_cons Wi<|all_cons WQ<|all_cons Xn<|all_cons Wd<|all_cons Ws<|all_cons WH<|all_cons W5<|all_cons W8<|all_cons W7<|all_cons WS<|all_cons WY<|all_cons W2<|all_cons WX<|all_cons WD<|all_cons W4<|all_cons W3<|all_cons WV<|all_cons Wo<|all_cons WN<|all_cons Wl<|all_cons V9<|all_cons Wm<|all_cons Wc<|all_cons WG<|all_cons Wu<|all_cons WJ<|all_cons Wj<|all_cons Wp<|all_cons V8<|all_cons We<|all_cons Xo<|all_cons Xp<|all_cons Wr<|all_cons WR<|all_cons Wh<|all_cons WA<|all_cons WC<|all_cons Wv<|all_cons Xq<|all_cons WK<|all_cons Xr<|all_cons WB<|all_cons WE<|all_cons Wq<|all_cons Xs<|all_cons WI<|all_cons Xt<|all_cons WL<|all_cons Xg<|all_cons W6<|all_cons Wg<|all_cons Wx<|all_nil
theorem QN:∀e∈V4,(ak Tryz.prog Φ7 ah aH e.1 e.2).Ok:=fun e he=>R.dt (L3 e he)
end Go.Rd
