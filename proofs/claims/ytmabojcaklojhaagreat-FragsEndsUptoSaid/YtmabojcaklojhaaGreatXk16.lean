/- Part Xk16 of the proof of FragsEnds: no condition. -/
import Derived.Test.YtmabojcaklojhaaGreatXj
namespace Go.Rd
open Go.aQ Go.RowKit Go.Rt Go.Proofs
set_option maxRecDepth 100000
theorem YM:R.okB (ak Tryz.prog Φ7 ah aH (Ls 20) Lu)=true:=by kernel_rfl
theorem Wp:R.okB (ak Tryz.prog Φ7 ah aH NF NG)=true:=by kernel_rfl
theorem k3:R.okB (ak Tryz.prog Φ7 ah aH MS MT)=true:=by kernel_rfl
theorem RR:R.okB (ak Tryz.prog Φ7 ah aH (CN 20) CO)=true:=by kernel_rfl
theorem Wq:R.okB (ak Tryz.prog Φ7 ah aH (LU true) LW)=true:=by kernel_rfl
theorem k4:R.okB (ak Tryz.prog Φ7 ah aH Sq Sr)=true:=by kernel_rfl
theorem Wr:R.okB (ak Tryz.prog Φ7 ah aH NM (eY 135))=true:=by kernel_rfl
theorem YN:R.okB (ak Tryz.prog Φ7 ah aH (LH 0) (pI 98 7))=true:=by kernel_rfl
theorem Ws:R.okB (ak Tryz.prog Φ7 ah aH M9 (eY 434))=true:=by kernel_rfl
theorem YO:R.okB (ak Tryz.prog Φ7 ah aH (LH 60) (pI 98 7))=true:=by kernel_rfl
theorem Wt:R.okB (ak Tryz.prog Φ7 ah aH Tj Tk)=true:=by kernel_rfl
theorem Wu:R.okB (ak Tryz.prog Φ7 ah aH NB (eY 437))=true:=by kernel_rfl
theorem Wv:R.okB (ak Tryz.prog Φ7 ah aH (LU false) LW)=true:=by kernel_rfl
theorem YP:R.okB (ak Tryz.prog Φ7 ah aH (Lx 0) (bM 44))=true:=by kernel_rfl
theorem YQ:R.okB (ak Tryz.prog Φ7 ah aH (C8 0) (pI 101 5))=true:=by kernel_rfl
theorem YR:R.okB (ak Tryz.prog Φ7 ah aH (CY 0) (pI 108 2))=true:=by kernel_rfl
theorem YS:R.okB (ak Tryz.prog Φ7 ah aH (Lx 20) (bM 44))=true:=by kernel_rfl
theorem YT:R.okB (ak Tryz.prog Φ7 ah aH (C3 0) (pI 110 3))=true:=by kernel_rfl
theorem YU:R.okB (ak Tryz.prog Φ7 ah aH (LJ 0) (pI 96 6))=true:=by kernel_rfl
theorem YV:R.okB (ak Tryz.prog Φ7 ah aH (CX 0) (pI 107 1))=true:=by kernel_rfl
theorem YW:R.okB (ak Tryz.prog Φ7 ah aH (C8 60) (pI 101 5))=true:=by kernel_rfl
theorem YX:R.okB (ak Tryz.prog Φ7 ah aH (C3 60) (pI 110 3))=true:=by kernel_rfl
theorem YY:R.okB (ak Tryz.prog Φ7 ah aH (CY 60) (pI 108 2))=true:=by kernel_rfl
theorem YZ:R.okB (ak Tryz.prog Φ7 ah aH (CX 60) (pI 107 1))=true:=by kernel_rfl
theorem Y0:R.okB (ak Tryz.prog Φ7 ah aH (LJ 60) (pI 96 6))=true:=by kernel_rfl
theorem Y1:R.okB (ak Tryz.prog Φ7 ah aH (CP 0) CQ)=true:=by kernel_rfl
theorem Y2:R.okB (ak Tryz.prog Φ7 ah aH (C5 60) (pI 152 4))=true:=by kernel_rfl
theorem Y3:R.okB (ak Tryz.prog Φ7 ah aH SF SG)=true:=by kernel_rfl
theorem Ww:R.okB (ak Tryz.prog Φ7 ah aH Ts (bM 18))=true:=by kernel_rfl
theorem Wx:R.okB (ak Tryz.prog Φ7 ah aH Q7 (eY 5))=true:=by kernel_rfl
theorem Wy:R.okB (ak Tryz.prog Φ7 ah aH Tn To)=true:=by kernel_rfl
theorem Y4:R.okB (ak Tryz.prog Φ7 ah aH M0 (bM 346))=true:=by kernel_rfl
theorem Y5:R.okB (ak Tryz.prog Φ7 ah aH (CP 20) CQ)=true:=by kernel_rfl
theorem Wz:R.okB (ak Tryz.prog Φ7 ah aH Tp Tq)=true:=by kernel_rfl
theorem WA:R.okB (ak Tryz.prog Φ7 ah aH (Di false) Dj)=true:=by kernel_rfl
theorem Y6:R.okB (ak Tryz.prog Φ7 ah aH Sx Sy)=true:=by kernel_rfl
theorem WB:R.okB (ak Tryz.prog Φ7 ah aH (Di true) Dj)=true:=by kernel_rfl
theorem Y7:R.okB (ak Tryz.prog Φ7 ah aH (C9 false) (bM 103))=true:=by kernel_rfl
theorem WC:R.okB (ak Tryz.prog Φ7 ah aH (Dk false) (eY 132))=true:=by kernel_rfl
theorem Y8:R.okB (ak Tryz.prog Φ7 ah aH Sz SD)=true:=by kernel_rfl
theorem WD:R.okB (ak Tryz.prog Φ7 ah aH Nj Nk)=true:=by kernel_rfl
theorem WE:R.okB (ak Tryz.prog Φ7 ah aH (Dk true) (eY 132))=true:=by kernel_rfl
theorem Y9:R.okB (ak Tryz.prog Φ7 ah aH (Da false) (bM 105))=true:=by kernel_rfl
theorem WG:R.okB (ak Tryz.prog Φ7 ah aH NA (eY 505))=true:=by kernel_rfl
theorem WH:R.okB (ak Tryz.prog Φ7 ah aH Na (eY 435))=true:=by kernel_rfl
theorem Za:R.okB (ak Tryz.prog Φ7 ah aH (LB true) (bM 65))=true:=by kernel_rfl
theorem Zb:R.okB (ak Tryz.prog Φ7 ah aH SR SU)=true:=by kernel_rfl
theorem Zc:R.okB (ak Tryz.prog Φ7 ah aH (LB false) (bM 65))=true:=by kernel_rfl
theorem WI:R.okB (ak Tryz.prog Φ7 ah aH (Dl true) Dm)=true:=by kernel_rfl
theorem Zd:R.okB (ak Tryz.prog Φ7 ah aH (Da true) (bM 105))=true:=by kernel_rfl
theorem Ze:R.okB (ak Tryz.prog Φ7 ah aH (C9 true) (bM 103))=true:=by kernel_rfl
theorem WJ:R.okB (ak Tryz.prog Φ7 ah aH NC (eY 436))=true:=by kernel_rfl
theorem WK:R.okB (ak Tryz.prog Φ7 ah aH (Dl false) Dm)=true:=by kernel_rfl
theorem Zf:R.okB (ak Tryz.prog Φ7 ah aH (CS false) (bM 155))=true:=by kernel_rfl
theorem Zg:R.okB (ak Tryz.prog Φ7 ah aH (CS true) (bM 155))=true:=by kernel_rfl
theorem WL:R.okB (ak Tryz.prog Φ7 ah aH NP NQ)=true:=by kernel_rfl
theorem Zh:R.okB (ak Tryz.prog Φ7 ah aH (Lz true) LA)=true:=by kernel_rfl
theorem Zi:R.okB (ak Tryz.prog Φ7 ah aH M3 M4)=true:=by kernel_rfl
theorem Zj:R.okB (ak Tryz.prog Φ7 ah aH (Lz false) LA)=true:=by kernel_rfl
theorem Zk:R.okB (ak Tryz.prog Φ7 ah aH (CT true) (bM 154))=true:=by kernel_rfl
theorem Zl:R.okB (ak Tryz.prog Φ7 ah aH MY (bM 450))=true:=by kernel_rfl
theorem Zm:R.okB (ak Tryz.prog Φ7 ah aH (CT false) (bM 154))=true:=by kernel_rfl
theorem WM:R.okB (ak Tryz.prog Φ7 ah aH Ti (bM 51))=true:=by kernel_rfl
theorem Zo:R.okB (ak Tryz.prog Φ7 ah aH SY SZ)=true:=by kernel_rfl
theorem Zp:R.okB (ak Tryz.prog Φ7 ah aH (LI 0) (bM 97))=true:=by kernel_rfl
theorem Zq:R.okB (ak Tryz.prog Φ7 ah aH (C7 0) (bM 102))=true:=by kernel_rfl
theorem Zr:R.okB (ak Tryz.prog Φ7 ah aH (LI 60) (bM 97))=true:=by kernel_rfl
theorem WN:R.okB (ak Tryz.prog Φ7 ah aH Nr (eY 136))=true:=by kernel_rfl
theorem Zs:R.okB (ak Tryz.prog Φ7 ah aH (LG 60) (bM 99))=true:=by kernel_rfl
theorem Zt:R.okB (ak Tryz.prog Φ7 ah aH (CR 0) (bM 149))=true:=by kernel_rfl
theorem Zu:R.okB (ak Tryz.prog Φ7 ah aH (C7 60) (bM 102))=true:=by kernel_rfl
theorem Zv:R.okB (ak Tryz.prog Φ7 ah aH (LG 0) (bM 99))=true:=by kernel_rfl
theorem Zw:R.okB (ak Tryz.prog Φ7 ah aH MZ (bM 345))=true:=by kernel_rfl
theorem Zx:R.okB (ak Tryz.prog Φ7 ah aH (CR 20) (bM 149))=true:=by kernel_rfl
theorem WO:R.okB (ak Tryz.prog Φ7 ah aH Td (bM 13))=true:=by kernel_rfl
theorem WQ:R.okB (ak Tryz.prog Φ7 ah aH Tw (bM 21))=true:=by kernel_rfl
theorem WR:R.okB (ak Tryz.prog Φ7 ah aH NN NO)=true:=by kernel_rfl
theorem Zy:R.okB (ak Tryz.prog Φ7 ah aH S0 (bM 95))=true:=by kernel_rfl
theorem Zz:R.okB (ak Tryz.prog Φ7 ah aH (CZ 60) (bM 111))=true:=by kernel_rfl
theorem ZA:R.okB (ak Tryz.prog Φ7 ah aH (LD 60) (bM 53))=true:=by kernel_rfl
theorem ZB:R.okB (ak Tryz.prog Φ7 ah aH (CZ 0) (bM 111))=true:=by kernel_rfl
theorem ZC:R.okB (ak Tryz.prog Φ7 ah aH (LD 0) (bM 53))=true:=by kernel_rfl
theorem ZD:R.okB (ak Tryz.prog Φ7 ah aH (LK 0) (bM 49))=true:=by kernel_rfl
theorem WS:R.okB (ak Tryz.prog Φ7 ah aH Nf (eY 206))=true:=by kernel_rfl
theorem ZE:R.okB (ak Tryz.prog Φ7 ah aH (LK 60) (bM 49))=true:=by kernel_rfl
theorem WT:R.okB (ak Tryz.prog Φ7 ah aH Te Tf)=true:=by kernel_rfl
theorem ZF:R.okB (ak Tryz.prog Φ7 ah aH (CW 0) (bM 109))=true:=by kernel_rfl
theorem WV:R.okB (ak Tryz.prog Φ7 ah aH Nn (eY 336))=true:=by kernel_rfl
theorem ZG:R.okB (ak Tryz.prog Φ7 ah aH (CW 60) (bM 109))=true:=by kernel_rfl
theorem WW:R.okB (ak Tryz.prog Φ7 ah aH Tg Th)=true:=by kernel_rfl
theorem WX:R.okB (ak Tryz.prog Φ7 ah aH Ni (eY 335))=true:=by kernel_rfl
theorem WY:R.okB (ak Tryz.prog Φ7 ah aH Ng (eY 213))=true:=by kernel_rfl
theorem ZH:R.okB (ak Tryz.prog Φ7 ah aH Sv (bM 85))=true:=by kernel_rfl
theorem WZ:R.okB (ak Tryz.prog Φ7 ah aH Jr M6)=true:=by kernel_rfl
theorem W0:R.okB (ak Tryz.prog Φ7 ah aH Tc (bM 12))=true:=by kernel_rfl
theorem ZI:R.okB (ak Tryz.prog Φ7 ah aH (C6 0) (bM 100))=true:=by kernel_rfl
theorem ZJ:R.okB (ak Tryz.prog Φ7 ah aH (LF 60) (bM 54))=true:=by kernel_rfl
theorem ZK:R.okB (ak Tryz.prog Φ7 ah aH (C6 60) (bM 100))=true:=by kernel_rfl
theorem ZL:R.okB (ak Tryz.prog Φ7 ah aH (LF 0) (bM 54))=true:=by kernel_rfl
theorem ZM:R.okB (ak Tryz.prog Φ7 ah aH (C4 60) (bM 153))=true:=by kernel_rfl
theorem ZN:R.okB (ak Tryz.prog Φ7 ah aH (C4 0) (bM 153))=true:=by kernel_rfl
theorem W1:R.okB (ak Tryz.prog Φ7 ah aH Tl (bM 15))=true:=by kernel_rfl
theorem ZO:R.okB (ak Tryz.prog Φ7 ah aH Jo (bM 122))=true:=by kernel_rfl
theorem W2:R.okB (ak Tryz.prog Φ7 ah aH Nh (eY 438))=true:=by kernel_rfl
theorem ZP:R.okB (ak Tryz.prog Φ7 ah aH Sw (bM 86))=true:=by kernel_rfl
theorem W3:R.okB (ak Tryz.prog Φ7 ah aH Nm (eY 137))=true:=by kernel_rfl
theorem W4:R.okB (ak Tryz.prog Φ7 ah aH Nl (eY 207))=true:=by kernel_rfl
theorem W5:R.okB (ak Tryz.prog Φ7 ah aH Nb (eY 333))=true:=by kernel_rfl
theorem ZQ:R.okB (ak Tryz.prog Φ7 ah aH SE (bM 89))=true:=by kernel_rfl
theorem ZR:R.okB (ak Tryz.prog Φ7 ah aH MW (bM 122))=true:=by kernel_rfl
theorem W6:R.okB (ak Tryz.prog Φ7 ah aH NS LX)=true:=by kernel_rfl
theorem W7:R.okB (ak Tryz.prog Φ7 ah aH Nd (eY 506))=true:=by kernel_rfl
theorem W8:R.okB (ak Tryz.prog Φ7 ah aH Nc (eY 342))=true:=by kernel_rfl
end Go.Rd
