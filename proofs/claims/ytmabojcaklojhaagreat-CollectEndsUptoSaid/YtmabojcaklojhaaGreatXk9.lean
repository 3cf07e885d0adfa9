/- Part Xk9 of the proof of CollectEnds: no condition. -/
import Derived.Test.YtmabojcaklojhaaGreatXj
namespace Go.Rd
open Go.aI Go.RowKit Go.Rt Go.Proofs
set_option maxRecDepth 100000
theorem k76:R.okB (az Tryz.prog Φ7 aj aU SH SI)=true:=by kernel_rfl
theorem k5:R.okB (az Tryz.prog Φ7 aj aU (Fi true) Fj)=true:=by kernel_rfl
theorem k11:R.okB (az Tryz.prog Φ7 aj aU (Fi false) Fj)=true:=by kernel_rfl
theorem k89:R.okB (az Tryz.prog Φ7 aj aU (ES false) ET)=true:=by kernel_rfl
theorem k66:R.okB (az Tryz.prog Φ7 aj aU (Md 0) Me)=true:=by kernel_rfl
theorem k88:R.okB (az Tryz.prog Φ7 aj aU (ES true) ET)=true:=by kernel_rfl
theorem k67:R.okB (az Tryz.prog Φ7 aj aU (Md 20) Me)=true:=by kernel_rfl
theorem k7:R.okB (az Tryz.prog Φ7 aj aU (Fm true) (kC 127))=true:=by kernel_rfl
theorem k141:R.okB (az Tryz.prog Φ7 aj aU (Fa false) (Fb false))=true:=by kernel_rfl
theorem k28:R.okB (az Tryz.prog Φ7 aj aU (Mz true) MA)=true:=by kernel_rfl
theorem k29:R.okB (az Tryz.prog Φ7 aj aU (Mz false) MA)=true:=by kernel_rfl
theorem k133:R.okB (az Tryz.prog Φ7 aj aU (Fa true) (Fb true))=true:=by kernel_rfl
theorem k48:R.okB (az Tryz.prog Φ7 aj aU (EI 0) EJ)=true:=by kernel_rfl
theorem k49:R.okB (az Tryz.prog Φ7 aj aU (EI 20) EJ)=true:=by kernel_rfl
theorem k4:R.okB (az Tryz.prog Φ7 aj aU Th Ti)=true:=by kernel_rfl
theorem k56:R.okB (az Tryz.prog Φ7 aj aU (Mb 0) Mc)=true:=by kernel_rfl
theorem k50:R.okB (az Tryz.prog Φ7 aj aU (EK 0) EL)=true:=by kernel_rfl
theorem k30:R.okB (az Tryz.prog Φ7 aj aU (Ff true) Fg)=true:=by kernel_rfl
theorem k31:R.okB (az Tryz.prog Φ7 aj aU (Ff false) Fg)=true:=by kernel_rfl
theorem k24:R.okB (az Tryz.prog Φ7 aj aU (Fe true) Fc)=true:=by kernel_rfl
theorem k25:R.okB (az Tryz.prog Φ7 aj aU (Fe false) Fc)=true:=by kernel_rfl
theorem k15:R.okB (az Tryz.prog Φ7 aj aU (MJ false) MK)=true:=by kernel_rfl
theorem k57:R.okB (az Tryz.prog Φ7 aj aU (Mb 20) Mc)=true:=by kernel_rfl
theorem k41:R.okB (az Tryz.prog Φ7 aj aU NC ND)=true:=by kernel_rfl
theorem k148:R.okB (az Tryz.prog Φ7 aj aU S3 S4)=true:=by kernel_rfl
theorem k9:R.okB (az Tryz.prog Φ7 aj aU (MJ true) MK)=true:=by kernel_rfl
theorem k43:R.okB (az Tryz.prog Φ7 aj aU NF NG)=true:=by kernel_rfl
theorem k51:R.okB (az Tryz.prog Φ7 aj aU (EK 20) EL)=true:=by kernel_rfl
theorem k33:R.okB (az Tryz.prog Φ7 aj aU (Fh false) (kC 124))=true:=by kernel_rfl
theorem k44:R.okB (az Tryz.prog Φ7 aj aU R6 R7)=true:=by kernel_rfl
theorem k124:R.okB (az Tryz.prog Φ7 aj aU (Mr 60) (qQ 98 7))=true:=by kernel_rfl
theorem k107:R.okB (az Tryz.prog Φ7 aj aU (Mr 0) (qQ 98 7))=true:=by kernel_rfl
theorem k105:R.okB (az Tryz.prog Φ7 aj aU (E5 0) (qQ 101 5))=true:=by kernel_rfl
theorem k96:R.okB (az Tryz.prog Φ7 aj aU (EV 0) (qQ 107 1))=true:=by kernel_rfl
theorem k68:R.okB (az Tryz.prog Φ7 aj aU (Mf 0) (cj 44))=true:=by kernel_rfl
theorem k122:R.okB (az Tryz.prog Φ7 aj aU (E5 60) (qQ 101 5))=true:=by kernel_rfl
theorem k126:R.okB (az Tryz.prog Φ7 aj aU (Mt 60) (qQ 96 6))=true:=by kernel_rfl
theorem k109:R.okB (az Tryz.prog Φ7 aj aU (Mt 0) (qQ 96 6))=true:=by kernel_rfl
theorem k97:R.okB (az Tryz.prog Φ7 aj aU (EW 0) (qQ 108 2))=true:=by kernel_rfl
theorem k32:R.okB (az Tryz.prog Φ7 aj aU (Fh true) (kC 124))=true:=by kernel_rfl
theorem k114:R.okB (az Tryz.prog Φ7 aj aU (EW 60) (qQ 108 2))=true:=by kernel_rfl
theorem k99:R.okB (az Tryz.prog Φ7 aj aU (EY 0) (qQ 110 3))=true:=by kernel_rfl
theorem k69:R.okB (az Tryz.prog Φ7 aj aU (Mf 20) (cj 44))=true:=by kernel_rfl
theorem k113:R.okB (az Tryz.prog Φ7 aj aU (EV 60) (qQ 107 1))=true:=by kernel_rfl
theorem k116:R.okB (az Tryz.prog Φ7 aj aU (EY 60) (qQ 110 3))=true:=by kernel_rfl
theorem k52:R.okB (az Tryz.prog Φ7 aj aU (EM 0) EN)=true:=by kernel_rfl
theorem k149:R.okB (az Tryz.prog Φ7 aj aU S5 (cj 18))=true:=by kernel_rfl
theorem k102:R.okB (az Tryz.prog Φ7 aj aU (E0 0) (qQ 152 4))=true:=by kernel_rfl
theorem k119:R.okB (az Tryz.prog Φ7 aj aU (E0 60) (qQ 152 4))=true:=by kernel_rfl
theorem k63:R.okB (az Tryz.prog Φ7 aj aU Si Sj)=true:=by kernel_rfl
theorem k93:R.okB (az Tryz.prog Φ7 aj aU NN (cj 346))=true:=by kernel_rfl
theorem k150:R.okB (az Tryz.prog Φ7 aj aU S6 (cj 19))=true:=by kernel_rfl
theorem k53:R.okB (az Tryz.prog Φ7 aj aU (EM 20) EN)=true:=by kernel_rfl
theorem k60:R.okB (az Tryz.prog Φ7 aj aU Sc Sd)=true:=by kernel_rfl
theorem k72:R.okB (az Tryz.prog Φ7 aj aU Sx Sy)=true:=by kernel_rfl
theorem k82:R.okB (az Tryz.prog Φ7 aj aU (Mm true) (cj 65))=true:=by kernel_rfl
theorem k138:R.okB (az Tryz.prog Φ7 aj aU (E7 false) (cj 105))=true:=by kernel_rfl
theorem k83:R.okB (az Tryz.prog Φ7 aj aU (Mm false) (cj 65))=true:=by kernel_rfl
theorem k130:R.okB (az Tryz.prog Φ7 aj aU (E7 true) (cj 105))=true:=by kernel_rfl
theorem k137:R.okB (az Tryz.prog Φ7 aj aU (E6 false) (cj 103))=true:=by kernel_rfl
theorem k80:R.okB (az Tryz.prog Φ7 aj aU (Mk true) Ml)=true:=by kernel_rfl
theorem k85:R.okB (az Tryz.prog Φ7 aj aU (EP false) (cj 155))=true:=by kernel_rfl
theorem k19:R.okB (az Tryz.prog Φ7 aj aU NW NX)=true:=by kernel_rfl
theorem k128:R.okB (az Tryz.prog Φ7 aj aU NQ NR)=true:=by kernel_rfl
theorem k129:R.okB (az Tryz.prog Φ7 aj aU (E6 true) (cj 103))=true:=by kernel_rfl
theorem k81:R.okB (az Tryz.prog Φ7 aj aU (Mk false) Ml)=true:=by kernel_rfl
theorem k34:R.okB (az Tryz.prog Φ7 aj aU (MB true) (kC 26))=true:=by kernel_rfl
theorem k147:R.okB (az Tryz.prog Φ7 aj aU S0 (cj 51))=true:=by kernel_rfl
theorem k21:R.okB (az Tryz.prog Φ7 aj aU NZ N0)=true:=by kernel_rfl
theorem k35:R.okB (az Tryz.prog Φ7 aj aU (MB false) (kC 26))=true:=by kernel_rfl
theorem k86:R.okB (az Tryz.prog Φ7 aj aU (ER true) (cj 154))=true:=by kernel_rfl
theorem k87:R.okB (az Tryz.prog Φ7 aj aU (ER false) (cj 154))=true:=by kernel_rfl
theorem k145:R.okB (az Tryz.prog Φ7 aj aU SX (cj 13))=true:=by kernel_rfl
theorem k91:R.okB (az Tryz.prog Φ7 aj aU NL (cj 450))=true:=by kernel_rfl
theorem k71:R.okB (az Tryz.prog Φ7 aj aU Sw (cj 93))=true:=by kernel_rfl
theorem k74:R.okB (az Tryz.prog Φ7 aj aU SE SF)=true:=by kernel_rfl
theorem k146:R.okB (az Tryz.prog Φ7 aj aU SY SZ)=true:=by kernel_rfl
theorem k125:R.okB (az Tryz.prog Φ7 aj aU (Ms 60) (cj 97))=true:=by kernel_rfl
theorem k108:R.okB (az Tryz.prog Φ7 aj aU (Ms 0) (cj 97))=true:=by kernel_rfl
theorem k121:R.okB (az Tryz.prog Φ7 aj aU (E4 60) (cj 102))=true:=by kernel_rfl
theorem k92:R.okB (az Tryz.prog Φ7 aj aU NM (cj 345))=true:=by kernel_rfl
theorem k37:R.okB (az Tryz.prog Φ7 aj aU N5 (kC 198))=true:=by kernel_rfl
theorem k104:R.okB (az Tryz.prog Φ7 aj aU (E4 0) (cj 102))=true:=by kernel_rfl
theorem k123:R.okB (az Tryz.prog Φ7 aj aU (Mq 60) (cj 99))=true:=by kernel_rfl
theorem k106:R.okB (az Tryz.prog Φ7 aj aU (Mq 0) (cj 99))=true:=by kernel_rfl
theorem k55:R.okB (az Tryz.prog Φ7 aj aU (EO 20) (cj 149))=true:=by kernel_rfl
theorem k54:R.okB (az Tryz.prog Φ7 aj aU (EO 0) (cj 149))=true:=by kernel_rfl
theorem k17:R.okB (az Tryz.prog Φ7 aj aU NU (cj 21))=true:=by kernel_rfl
theorem k151:R.okB (az Tryz.prog Φ7 aj aU S7 (cj 21))=true:=by kernel_rfl
theorem k90:R.okB (az Tryz.prog Φ7 aj aU NK (cj 449))=true:=by kernel_rfl
theorem k75:R.okB (az Tryz.prog Φ7 aj aU SG (cj 95))=true:=by kernel_rfl
theorem k111:R.okB (az Tryz.prog Φ7 aj aU (Mo 60) (cj 53))=true:=by kernel_rfl
theorem k94:R.okB (az Tryz.prog Φ7 aj aU (Mo 0) (cj 53))=true:=by kernel_rfl
theorem k26:R.okB (az Tryz.prog Φ7 aj aU N3 N4)=true:=by kernel_rfl
theorem k112:R.okB (az Tryz.prog Φ7 aj aU (EU 60) (cj 109))=true:=by kernel_rfl
theorem k115:R.okB (az Tryz.prog Φ7 aj aU (EX 60) (cj 111))=true:=by kernel_rfl
theorem k127:R.okB (az Tryz.prog Φ7 aj aU (Mu 60) (cj 49))=true:=by kernel_rfl
theorem k98:R.okB (az Tryz.prog Φ7 aj aU (EX 0) (cj 111))=true:=by kernel_rfl
theorem k95:R.okB (az Tryz.prog Φ7 aj aU (EU 0) (cj 109))=true:=by kernel_rfl
theorem k110:R.okB (az Tryz.prog Φ7 aj aU (Mu 0) (cj 49))=true:=by kernel_rfl
theorem k1:R.okB (az Tryz.prog Φ7 aj aU (MH true) MI)=true:=by kernel_rfl
theorem k23:R.okB (az Tryz.prog Φ7 aj aU N2 (kC 95))=true:=by kernel_rfl
theorem k120:R.okB (az Tryz.prog Φ7 aj aU (E3 60) (cj 100))=true:=by kernel_rfl
end Go.Rd
