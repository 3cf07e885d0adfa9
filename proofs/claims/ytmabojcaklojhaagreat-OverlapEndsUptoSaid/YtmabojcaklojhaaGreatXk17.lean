/- Part Xk17 of the proof of OverlapEnds: no condition. -/
import Derived.Test.YtmabojcaklojhaaGreatXj
namespace Go.Rd
open Go.aK Go.RowKit Go.Rt Go.Proofs
set_option maxRecDepth 100000
theorem Yl:R.okB (al Tryz.prog Φ7 ai aH Vb Vc)=true:=by kernel_rfl
theorem k22:R.okB (al Tryz.prog Φ7 ai aH UD UE)=true:=by kernel_rfl
theorem k28:R.okB (al Tryz.prog Φ7 ai aH UI UJ)=true:=by kernel_rfl
theorem Ym:R.okB (al Tryz.prog Φ7 ai aH OC OD)=true:=by kernel_rfl
theorem k41:R.okB (al Tryz.prog Φ7 ai aH (EF false) EG)=true:=by kernel_rfl
theorem k40:R.okB (al Tryz.prog Φ7 ai aH (EF true) EG)=true:=by kernel_rfl
theorem k18:R.okB (al Tryz.prog Φ7 ai aH (LI 0) LJ)=true:=by kernel_rfl
theorem Yn:R.okB (al Tryz.prog Φ7 ai aH Pd Pe)=true:=by kernel_rfl
theorem k93:R.okB (al Tryz.prog Φ7 ai aH (EW false) (EX false))=true:=by kernel_rfl
theorem k19:R.okB (al Tryz.prog Φ7 ai aH (LI 20) LJ)=true:=by kernel_rfl
theorem Yo:R.okB (al Tryz.prog Φ7 ai aH OH OI)=true:=by kernel_rfl
theorem Yp:R.okB (al Tryz.prog Φ7 ai aH N6 N7)=true:=by kernel_rfl
theorem k85:R.okB (al Tryz.prog Φ7 ai aH (EW true) (EX true))=true:=by kernel_rfl
theorem Yq:R.okB (al Tryz.prog Φ7 ai aH Vm Vn)=true:=by kernel_rfl
theorem Yr:R.okB (al Tryz.prog Φ7 ai aH (Mj false) (fM 35))=true:=by kernel_rfl
theorem k92:R.okB (al Tryz.prog Φ7 ai aH (EU false) (EV false))=true:=by kernel_rfl
theorem k84:R.okB (al Tryz.prog Φ7 ai aH (EU true) (EV true))=true:=by kernel_rfl
theorem k0:R.okB (al Tryz.prog Φ7 ai aH (Eu 0) Ev)=true:=by kernel_rfl
theorem Ys:R.okB (al Tryz.prog Φ7 ai aH Ot Ou)=true:=by kernel_rfl
theorem k1:R.okB (al Tryz.prog Φ7 ai aH (Eu 20) Ev)=true:=by kernel_rfl
theorem k8:R.okB (al Tryz.prog Φ7 ai aH (LG 0) LH)=true:=by kernel_rfl
theorem Yt:R.okB (al Tryz.prog Φ7 ai aH OW OX)=true:=by kernel_rfl
theorem Yu:R.okB (al Tryz.prog Φ7 ai aH Ov Ow)=true:=by kernel_rfl
theorem Yw:R.okB (al Tryz.prog Φ7 ai aH (Mg false) (fM 33))=true:=by kernel_rfl
theorem Yx:R.okB (al Tryz.prog Φ7 ai aH NZ N0)=true:=by kernel_rfl
theorem Yy:R.okB (al Tryz.prog Φ7 ai aH OP OQ)=true:=by kernel_rfl
theorem Yz:R.okB (al Tryz.prog Φ7 ai aH Ve (fM 83))=true:=by kernel_rfl
theorem k9:R.okB (al Tryz.prog Φ7 ai aH (LG 20) LH)=true:=by kernel_rfl
theorem YA:R.okB (al Tryz.prog Φ7 ai aH Oe Of)=true:=by kernel_rfl
theorem YB:R.okB (al Tryz.prog Φ7 ai aH OV (fM 210))=true:=by kernel_rfl
theorem YC:R.okB (al Tryz.prog Φ7 ai aH Pb (fM 146))=true:=by kernel_rfl
theorem k3:R.okB (al Tryz.prog Φ7 ai aH (Ew 20) Ey)=true:=by kernel_rfl
theorem Sa:R.dL (.n .a (.n (.n (.n .a .o) .o) .o)) (al Tryz.prog Φ7 ai aH iZ ja)=true:=by kernel_rfl
theorem YD:R.okB (al Tryz.prog Φ7 ai aH UX UY)=true:=by kernel_rfl
theorem YE:R.okB (al Tryz.prog Φ7 ai aH Om (iJ 135))=true:=by kernel_rfl
theorem YF:R.okB (al Tryz.prog Φ7 ai aH NK (iJ 434))=true:=by kernel_rfl
theorem YG:R.okB (al Tryz.prog Φ7 ai aH (Mf false) (fM 32))=true:=by kernel_rfl
theorem YH:R.okB (al Tryz.prog Φ7 ai aH OM (fM 510))=true:=by kernel_rfl
theorem k59:R.okB (al Tryz.prog Φ7 ai aH (LX 0) (qL 98 7))=true:=by kernel_rfl
theorem k76:R.okB (al Tryz.prog Φ7 ai aH (LX 60) (qL 98 7))=true:=by kernel_rfl
theorem YI:R.okB (al Tryz.prog Φ7 ai aH Ob (iJ 437))=true:=by kernel_rfl
theorem YJ:R.okB (al Tryz.prog Φ7 ai aH U9 Va)=true:=by kernel_rfl
theorem k20:R.okB (al Tryz.prog Φ7 ai aH (LK 0) (cw 44))=true:=by kernel_rfl
theorem k57:R.okB (al Tryz.prog Φ7 ai aH (ER 0) (qL 101 5))=true:=by kernel_rfl
theorem k49:R.okB (al Tryz.prog Φ7 ai aH (EJ 0) (qL 108 2))=true:=by kernel_rfl
theorem k61:R.okB (al Tryz.prog Φ7 ai aH (LZ 0) (qL 96 6))=true:=by kernel_rfl
theorem k74:R.okB (al Tryz.prog Φ7 ai aH (ER 60) (qL 101 5))=true:=by kernel_rfl
theorem k48:R.okB (al Tryz.prog Φ7 ai aH (EI 0) (qL 107 1))=true:=by kernel_rfl
theorem k21:R.okB (al Tryz.prog Φ7 ai aH (LK 20) (cw 44))=true:=by kernel_rfl
theorem k51:R.okB (al Tryz.prog Φ7 ai aH (EL 0) (qL 110 3))=true:=by kernel_rfl
theorem k66:R.okB (al Tryz.prog Φ7 ai aH (EJ 60) (qL 108 2))=true:=by kernel_rfl
theorem k78:R.okB (al Tryz.prog Φ7 ai aH (LZ 60) (qL 96 6))=true:=by kernel_rfl
theorem k65:R.okB (al Tryz.prog Φ7 ai aH (EI 60) (qL 107 1))=true:=by kernel_rfl
theorem k68:R.okB (al Tryz.prog Φ7 ai aH (EL 60) (qL 110 3))=true:=by kernel_rfl
theorem k4:R.okB (al Tryz.prog Φ7 ai aH (Ez 0) EA)=true:=by kernel_rfl
theorem k71:R.okB (al Tryz.prog Φ7 ai aH (EN 60) (qL 152 4))=true:=by kernel_rfl
theorem k15:R.okB (al Tryz.prog Φ7 ai aH Uq Ur)=true:=by kernel_rfl
theorem k45:R.okB (al Tryz.prog Φ7 ai aH NA (cw 346))=true:=by kernel_rfl
theorem k5:R.okB (al Tryz.prog Φ7 ai aH (Ez 20) EA)=true:=by kernel_rfl
theorem YK:R.okB (al Tryz.prog Φ7 ai aH OL (fM 539))=true:=by kernel_rfl
theorem YL:R.okB (al Tryz.prog Φ7 ai aH NU NV)=true:=by kernel_rfl
theorem k13:R.okB (al Tryz.prog Φ7 ai aH Un Uo)=true:=by kernel_rfl
theorem YM:R.okB (al Tryz.prog Φ7 ai aH Vp Vq)=true:=by kernel_rfl
theorem YN:R.okB (al Tryz.prog Φ7 ai aH NL (iJ 435))=true:=by kernel_rfl
theorem k12:R.okB (al Tryz.prog Φ7 ai aH Ul Um)=true:=by kernel_rfl
theorem YO:R.okB (al Tryz.prog Φ7 ai aH Oa (iJ 505))=true:=by kernel_rfl
theorem k24:R.okB (al Tryz.prog Φ7 ai aH UB UC)=true:=by kernel_rfl
theorem k34:R.okB (al Tryz.prog Φ7 ai aH (LP true) (cw 65))=true:=by kernel_rfl
theorem YP:R.okB (al Tryz.prog Φ7 ai aH O4 O5)=true:=by kernel_rfl
theorem k35:R.okB (al Tryz.prog Φ7 ai aH (LP false) (cw 65))=true:=by kernel_rfl
theorem k90:R.okB (al Tryz.prog Φ7 ai aH (ET false) (cw 105))=true:=by kernel_rfl
theorem YQ:R.okB (al Tryz.prog Φ7 ai aH Oz OA)=true:=by kernel_rfl
theorem k82:R.okB (al Tryz.prog Φ7 ai aH (ET true) (cw 105))=true:=by kernel_rfl
theorem k89:R.okB (al Tryz.prog Φ7 ai aH (ES false) (cw 103))=true:=by kernel_rfl
theorem YR:R.okB (al Tryz.prog Φ7 ai aH ON (fM 509))=true:=by kernel_rfl
theorem k36:R.okB (al Tryz.prog Φ7 ai aH (ED true) (cw 155))=true:=by kernel_rfl
theorem YS:R.okB (al Tryz.prog Φ7 ai aH Oc (iJ 436))=true:=by kernel_rfl
theorem k32:R.okB (al Tryz.prog Φ7 ai aH (LN true) LO)=true:=by kernel_rfl
theorem k80:R.okB (al Tryz.prog Φ7 ai aH NC ND)=true:=by kernel_rfl
theorem k37:R.okB (al Tryz.prog Φ7 ai aH (ED false) (cw 155))=true:=by kernel_rfl
theorem YT:R.okB (al Tryz.prog Φ7 ai aH O7 O8)=true:=by kernel_rfl
theorem k81:R.okB (al Tryz.prog Φ7 ai aH (ES true) (cw 103))=true:=by kernel_rfl
theorem YU:R.okB (al Tryz.prog Φ7 ai aH Ox Oy)=true:=by kernel_rfl
theorem k43:R.okB (al Tryz.prog Φ7 ai aH Ny (cw 450))=true:=by kernel_rfl
theorem YV:R.okB (al Tryz.prog Φ7 ai aH Pn Me)=true:=by kernel_rfl
end Go.Rd
