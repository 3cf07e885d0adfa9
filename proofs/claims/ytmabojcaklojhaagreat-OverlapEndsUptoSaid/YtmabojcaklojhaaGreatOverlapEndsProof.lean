/- Proved: the law OverlapEnds of layer 18, over any definitions, any document and any two integers whose reading is of bulk at most 1048576, always returns true, and what came in reads as it did. Conditions: none but the statement's own bound. -/
import Derived.Test.YtmabojcaklojhaaGreatRows
import Derived.Test.YtmabojcaklojhaaGreatFacts6
import Derived.WalkKit
import Derived.ProofKit
import Derived.OpenShut
import Derived.JoinedCond
import Derived.ReadAgain
import Derived.ChangeOld
import Derived.Below
import Derived.Test.YtmabojcaklojhaaGreatXr
import Derived.Test.YtmabojcaklojhaaGreatXac
import Derived.Test.YtmabojcaklojhaaGreatXp16
import Derived.Test.YtmabojcaklojhaaGreatXk0
import Derived.Test.YtmabojcaklojhaaGreatXk1
import Derived.Test.YtmabojcaklojhaaGreatXk2
import Derived.Test.YtmabojcaklojhaaGreatXk3
import Derived.Test.YtmabojcaklojhaaGreatXk4
import Derived.Test.YtmabojcaklojhaaGreatXk5
import Derived.Test.YtmabojcaklojhaaGreatXk6
import Derived.Test.YtmabojcaklojhaaGreatXk7
import Derived.Test.YtmabojcaklojhaaGreatXk8
import Derived.Test.YtmabojcaklojhaaGreatXk9
import Derived.Test.YtmabojcaklojhaaGreatXk10
import Derived.Test.YtmabojcaklojhaaGreatXk11
import Derived.Test.YtmabojcaklojhaaGreatXk12
import Derived.Test.YtmabojcaklojhaaGreatXk13
import Derived.Test.YtmabojcaklojhaaGreatXk14
import Derived.Test.YtmabojcaklojhaaGreatXk15
import Derived.Test.YtmabojcaklojhaaGreatXk16
import Derived.Test.YtmabojcaklojhaaGreatXk17
import Derived.Test.YtmabojcaklojhaaGreatXk18
namespace Go.Rd
open Go.aK Go.RowKit Go.Rt Go.Proofs
theorem k17:R.okB (al Tryz.prog Φ7 ai aH lB lC)=true:=ez (aL (aL (aL (aL (aL (aL (aL (aL (aL (aL (aL (aL (aL (aL (aL (aL (aL (Vz) VJ) VB) VF) VO) VE) VC) VG) VT) VQ) Sf) Sm) RM) Sk) R3) RT) R7) Sw) (by rfl)
theorem k29:R.okB (al Tryz.prog Φ7 ai aH LL LM)=true:=ez (aL (VN) VP) (by rfl)
theorem k83:R.okB (al Tryz.prog Φ7 ai aH (sG true) (sH true))=true:=ez (aL (VM) VS) (by rfl)
theorem k86:R.okB (al Tryz.prog Φ7 ai aH (oM true) (oN true))=true:=ez (aL (aL (VH) VK) VA) (by rfl)
theorem k91:R.okB (al Tryz.prog Φ7 ai aH (sG false) (sH false))=true:=ez (aL (Vy) VI) (by rfl)
theorem k94:R.okB (al Tryz.prog Φ7 ai aH (oM false) (oN false))=true:=ez (aL (aL (VD) VR) VL) (by rfl)
theorem Zp:R.okB (al Tryz.prog Φ7 ai aH EZ (iJ 332))=true:=ez (aL (R1) R2) (by rfl)
theorem Zq:R.okB (al Tryz.prog Φ7 ai aH E0 E3)=true:=ez (aL (Sh) R8) (by rfl)
theorem Zr:R.okB (al Tryz.prog Φ7 ai aH Bm Bn)=true:=ez (aL (aL (RR) RX) Ss) (by rfl)
theorem Zs:R.okB (al Tryz.prog Φ7 ai aH L9 Ma)=true:=ez (aL (Sj) R9) (by rfl)
theorem Zt:R.okB (al Tryz.prog Φ7 ai aH iZ ja)=true:=ez (aL (aL (aL (aL (aL (aL (aL (aL (aL (aL (aL (aL (aL (aL (aL (aL (aL (aL (aL (aL (aL (aL (aL (Sa) RH) RZ) Sd) So) RN) RI) R6) Sc) Sq) Ms) Mu) MA) Mx) Mr) My) Mw) MC) Mv) Mp) Mz) MB) Mt) Mq) (by rfl)
theorem Zu:R.okB (al Tryz.prog Φ7 ai aH Bo Bp)=true:=ez (aL (aL (RL) Si) RP) (by rfl)
theorem Zv:R.okB (al Tryz.prog Φ7 ai aH Bq Br)=true:=ez (aL (aL (RO) RQ) RK) (by rfl)
theorem Zw:R.okB (al Tryz.prog Φ7 ai aH Md (fM 81))=true:=ez (aL (Se) RJ) (by rfl)
theorem Zx:R.okB (al Tryz.prog Φ7 ai aH JL (fM 82))=true:=ez (aL (aL (Sn) R5) R4) (by rfl)
theorem Zy:R.okB (al Tryz.prog Φ7 ai aH (mr false) mw)=true:=ez (aL (aL (Sv) Sx) RU) (by rfl)
theorem Zz:R.okB (al Tryz.prog Φ7 ai aH (mr true) mw)=true:=ez (aL (aL (aL (aL (RW) RV) RY) RS) Sr) (by rfl)
set_option maxRecDepth 100000
theorem MD:∀e∈XY,R.okB (al Tryz.prog Φ7 ai aH e.1 e.2)=true :=
 all_cons (p:=fun e:Sp×Gu=>R.okB (al Tryz.prog Φ7 ai aH e.1 e.2)=true) k0<|all_cons k1<|all_cons k2<|all_cons k3<|all_cons k4<|all_cons k5<|all_cons k6<|all_cons k7<|all_cons k8<|all_cons k9<|all_cons JS<|all_cons TO<|all_cons k12<|all_cons k13<|all_cons k14<|all_cons k15<|all_cons k16<|all_cons k17<|all_cons k18<|all_cons k19<|all_cons k20<|all_cons k21<|all_cons k22<|all_cons k23<|all_cons k24<|all_cons k25<|all_cons k26<|all_cons k27<|all_cons k28<|all_cons k29<|all_cons k30<|all_cons k31<|all_cons k32<|all_cons k33<|all_cons k34<|all_cons k35<|all_cons k36<|all_cons k37<|all_cons k38<|all_cons k39<|all_cons k40<|all_cons k41<|all_cons k42<|all_cons k43<|all_cons k44<|all_cons k45<|all_cons k46<|all_cons k47<|all_cons k48<|all_cons k49<|all_cons k50<|all_cons k51<|all_cons k52<|all_cons k53<|all_cons k54<|all_cons k55<|all_cons k56<|all_cons k57<|all_cons k58<|all_cons k59<|all_cons k60<|all_cons k61<|all_cons k62<|all_cons k63<|all_cons k64<|all_cons k65<|all_cons k66<|all_cons k67<|all_cons k68<|all_cons k69<|all_cons k70<|all_cons k71<|all_cons k72<|all_cons k73<|all_cons k74<|all_cons k75<|all_cons k76<|all_cons k77<|all_cons k78<|all_cons k79<|all_cons k80<|all_cons k81<|all_cons k82<|all_cons k83<|all_cons k84<|all_cons k85<|all_cons k86<|all_cons k87<|all_cons k88<|all_cons k89<|all_cons k90<|all_cons k91<|all_cons k92<|all_cons k93<|all_cons k94<|all_cons k95<|all_cons k96<|all_cons k97<|all_cons k98<|all_cons k99<|all_cons Y6<|all_cons Y5<|all_cons YX<|all_cons YD<|all_cons X2<|all_cons Y2<|all_cons Zp<|all_cons X8<|all_cons YF<|all_cons YN<|all_cons Zl<|all_cons Zi<|all_cons Zj<|all_cons Y3<|all_cons Y7<|all_cons Zc<|all_cons Y4<|all_cons YL<|all_cons Zh<|all_cons Zd<|all_cons Y0<|all_cons Yx<|all_cons YY<|all_cons Zo<|all_cons Yd<|all_cons Yp<|all_cons Yh<|all_cons YO<|all_cons YI<|all_cons YS<|all_cons Yj<|all_cons YA<|all_cons Zm<|all_cons X7<|all_cons Zq<|all_cons Zr<|all_cons YE<|all_cons Y1<|all_cons Yf<|all_cons Yg<|all_cons Zk<|all_cons Zs<|all_cons Zt<|all_cons Ys<|all_cons Yu<|all_cons YJ<|all_cons Yl<|all_cons YU<|all_cons YQ<|all_cons Ym<|all_cons X9<|all_cons Yo<|all_cons Yc<|all_cons YK<|all_cons YH<|all_cons YR<|all_cons Yi<|all_cons Yy<|all_cons X0<|all_cons X6<|all_cons Zu<|all_cons Zv<|all_cons YB<|all_cons Yt<|all_cons XZ<|all_cons YZ<|all_cons YP<|all_cons Y8<|all_cons YT<|all_cons X4<|all_cons Zw<|all_cons YC<|all_cons Zx<|all_cons Yz<|all_cons Ze<|all_cons Zy<|all_cons Zz<|all_cons Yn<|all_cons X1<|all_cons X5<|all_cons X3<|all_cons Yq<|all_cons Yb<|all_cons YV<|all_cons YM<|all_cons YW<|all_cons YG<|all_cons Zg<|all_cons Yw<|all_cons Zf<|all_cons Ya<|all_cons Y9<|all_cons Yr<|all_cons Zb<|all_cons Yk<|all_cons Za<|all_cons Ye<|all_nil
theorem Sy:∀e∈XY,(al Tryz.prog Φ7 ai aH e.1 e.2).Ok:=fun e he=>R.dG (MD e he)
end Go.Rd
set_option linter.unusedSimpArgs false
set_option linter.unusedVariables false
namespace Go.Rd
open Go.aK Go.RowKit Go.Rt Go.Proofs
theorem E6 {P:Program}{W:World}{r:Reach}{base:Nat}{t e:TypeId}{v:Value}(hu:P.underlying t=some (.slice e))(h:Value.okWide P W r base t v):∃o l c,v=.slice o l c:=by
 unfold Value.okWide at h;rw[hu]at h;have h:Cell.okWide P W r base t v:=h;unfold Cell.okWide at h;rw[hu]at h;have h:Cell.ok P W r base t v:=by cases v<;>exact h
 unfold Cell.ok at h;rw[hu]at h;cases v<;>first|exact⟨_,_,_,rfl⟩|exact h.elim
theorem Bz {P:Program}{W:World}{r:Reach}{base:Nat}{t:TypeId}{fs:Array Field}{v:Value}(hu:P.underlying t=some (.struct fs))(h:Value.okWide P W r base t v):∃cs,v=.agg cs/\cs.size=P.cellsOf t:=by
 unfold Value.okWide at h;rw[hu]at h;obtain⟨cs,h1,h2,_⟩:=h;exact⟨cs,h1,h2⟩
theorem vz {P:Program}{Φ:Forms}{G:GH}{c:Nat}{v:AV}{fs:List TF}(h:jU P Φ G [.sl c] [v] fs):∃ns,om P Φ G v c ns/\ns.length<=ma/\jj Φ fs=bif Φ.fV c then 0 else ns.sum+ns.length:=by
 obtain⟨v',cs',f,fs',e1,e2,⟨ns,e3⟩,e4,e5⟩:=h.w 0;subst e4 e5 e3;cases e1;rw[zbg]at e2;subst e2;exact⟨ns,h.raw _ _ _ _ (List.mem_singleton.2 rfl),h.Bt _ _ _ _ (List.mem_singleton.2 rfl),by simp[jj,sw]⟩
theorem JW {W W':World}(hk:aK.um W W'){p:MemPlace}(hp:p.block<W.heap.size):W.sameAt W' p:=by
 have:=hk.block p.block hp;cases p with
 |cell b off =>
  show W'.cell? ⟨b,off,none⟩=W.cell? ⟨b,off,none⟩;unfold World.cell?;have this:W'.heap[b]?=W.heap[b]?:=this;show (match W'.heap[b]? with|some (.cells c _ _)=>_|_=>_)=_;rw[this];rfl
 |map b=>exact this
theorem pK {H:Type}{enc:TypeId×Value->H}{P:Program}{w w':World}{base:Nat}{spare:Nat->Bool}{held:Bool}:∀{ts:List TypeId}{vs:List Value}{ds:List (DataW H)}{ps:List MemPlace},
  (∀p∈ps,w.sameAt w' p)->DataW.TrodAll enc P w base spare held ts vs ds ps->DataW.TrodAll enc P w' base spare held ts vs ds ps
 | [],[],[],_,_,h=>h
 |_::_,_::_,_::_,_,hs,⟨p,q,⟨n,hn⟩,h2,e⟩ =>
  ⟨p,q,⟨n,DataW.trod_carry n _ _ _ hn fun x hx=>hs x (by rw[e];exact zbz _ hx)⟩,pK (fun x hx=>hs x (by rw[e];exact zbx _ hx)) h2,e⟩
end Go.Rd
namespace Go.Rd
open Go.aK Go.RowKit Go.Rt Go.Proofs
open Go.Proofs.YtmabojcaklojhaaGreat (Rows.uptoBulk Rows.uptoBulkAll)
set_option maxRecDepth 100000
theorem core_none {B:Nat->Prop}{w0 w:World}{ι:En}(h1:Kept B w0 w)(h2:∀k,B k->k<w.heap.size):Core B w0 ι .e w :=
 ⟨h1,h2,fun id o h=>absurd h (by simp[Tr.gy]),fun id o h=>absurd h (by simp[Tr.gy]),fun id id' o o' _ h=>absurd h (by simp[Tr.gy]),fun id id' f ep es n el c f' ep' tp' es' n' el' c' _ h=>absurd h (by simp[Tr.gy])⟩
theorem spec_ran {P:Program}{f:Nat}{nx nx':Pz}{v:AV}(h:Th P f [] .e nx v .e nx')(hv:nf v){G:GH}:aK.Spec P f [] G fun v' G'=>v'=v/\G'=G:=by
 intro B w0 w ι cargs hc hg hca;refine (h (fun k=>k<w.heap.size) w w ι cargs (Am _) fun ι' _=>⟨uo _ _,hca⟩).mono fun cv w' ⟨ι2,_,_,_,hh⟩=>?_;obtain⟨c,e⟩:=hh ι2 (ao.refl _ _);have hk:Kept (fun k=>k<w.heap.size) w w':=c.below;refine⟨v,G,⟨rfl,rfl⟩,hv,by rw[e];exact hv _ _,core_none (hc.below.trans (hk.mono fun k hk'=>hc.room k hk')) fun k hk'=>zbj (hc.room k hk') hk.size,?_,fun b hb=>.inl hb,fun b hb=>hb⟩
 exact Ku hg (hk.mono fun k hk'=>by
  rcases hk' with hk'|hk'
  ·exact hc.room k hk'
  ·obtain⟨g,hg'⟩:=Option.isSome_iff_exists.1 hk'
   exact (hg k g hg').lt)
theorem out_none {P:Program}{Φ:Forms}{S Sg:List Nat}{G:GH}{Γ:dI}{ρ:bm}{q:SS}(hz:q.fs=[]/\q.bs=[]/\q.pw=[]/\q.ats=[]/\q.dB=[]/\q.ne=[]/\q.fz=[]/\q.sb=[])(ho:q.os=[]/\q.ty=[]/\q.gs=[])(ht:HT P Φ G Γ):Out P Φ S Sg G Γ G Γ ρ q:=by
 obtain⟨a1,a2,a3,a4,a5,a6,a7,a8⟩:=hz;obtain⟨b1,b2,b3⟩:=ho
 exact⟨⟨fun f h=>(by rw[a1]at h;cases h),fun f h=>(by rw[a2]at h;cases h),fun f h=>(by rw[a3]at h;cases h),fun f h=>(by rw[a4]at h;cases h),fun f h=>(by rw[a5]at h;cases h),fun f h=>(by rw[a6]at h;cases h),fun f h=>(by rw[a7]at h;cases h),fun f h=>(by rw[a8]at h;cases h)⟩,
  Rl.refl _ _ _ _ _,ht,fun f h=>(by rw[b1]at h;cases h),by rw[b1];exact List.nodup_nil,fun f h=>(by rw[b1]at h;cases h),fun f h=>(by rw[b2]at h;cases h),fun f h=>(by rw[b3]at h;cases h)⟩
theorem sp29_holds (m:Nat):j8 Tryz.prog Φ7 RF m:=fun ρ G Γ hin hm=>by
 show aK.Spec Tryz.prog 29 [] G _;refine (spec_ran (P:=Tryz.prog) (f:=29) (v:=.bool true) aK.eH.m19_ok (jr true)).mono fun v G' ⟨hv,hG⟩=>?_;subst hv hG;exact⟨Γ,ρ,_,zaw (i:=0) rfl,rfl,dh.refl _ _,out_none ⟨rfl,rfl,rfl,rfl,rfl,rfl,rfl,rfl⟩ ⟨rfl,rfl,rfl⟩ hin.ht⟩
theorem sp6_holds (m:Nat):j8 Tryz.prog Φ7 S5 m :=
 JB Mo mixed (ext:=[RF]) (fun sp hsp m=>by rw[List.mem_singleton.1 hsp];exact sp29_holds m) Sy S5 (zbz _ (List.mem_map.2 ⟨(S5,XX),zaw (i:=196) rfl,rfl⟩)) m
theorem raw_ref {P:Program}{Φ:Forms}{G:GH}{v:AV}{c:Nat}{ns:List Nat}(h:om P Φ G v c ns):cD v=true:=by cases h<;>rfl
theorem j6 {x:AV}{l:List Nat}(h:cD x=true):(U.v x l).vv=x:=by show (bif cD x then x else .ab)=x;rw[h];rfl
theorem law6 {fn:Func}(hf3:Tryz.prog.funcs[6]?=some fn)(hb3:fn.body.isNone=false)(hn3:(fn.name == "runtime.NumGoroutine")=false)(W:World){v0 x1:Value}{ns0 ns1:List Nat}(h0:om Tryz.prog Φ7 (rQ W) (jl v0) 8 ns0)(hl0:ns0.length<=ma)(hw:ns0.sum+ns0.length<=WU)(h1:om Tryz.prog Φ7 (rQ W) (jl x1) 6 ns1)(hl1:ns1.length<=ma)(hw1:ns1.sum+ns1.length<=WU)(a b:Int) :
  Calls Tryz.prog 6 #[v0,.agg #[x1],.int .i64 a,.int .i64 b] W fun e w'=>e=.returned (.bool true)/\aK.um W w':=by
 let ρ:bm:=fun k=>match k with|0=>.v (jl v0) ns0|1=>.v (jl x1) ns1|2=>.z a|_=>.z b
 let Γ0:dI:=⟨fun _=>none,fun _=>Gd.d0,1⟩
 have e0:(ρ 0).vv=jl v0:=j6 (raw_ref h0);have e1:(ρ 1).vv=jl x1:=j6 (raw_ref h1);have n0:(ρ 0).ns=ns0:=U.lr hl0;have n1:(ρ 1).ns=ns1:=U.lr hl1;have hu:∀v:AV,cD v=true->v≠aG:=fun v h e=>by subst e;cases h
 have hin:In Tryz.prog Φ7 (rQ W) Γ0 ρ S5.pre:=by
  refine⟨⟨fun f hf=>?_,fun p hp=>(by cases hp),fun p hp=>(by cases hp),fun p hp=>(by cases hp),fun p hp=>(by cases hp),fun p hp=>(by cases hp),fun p hp=>(by cases hp),fun p hp=>(by cases hp)⟩,
   ⟨⟨rfl,Nat.one_pos⟩,fun b x hb=>(by cases hb)⟩,fun o ho=>(by cases ho),List.nodup_nil,fun f hf=>?_,fun p hp=>(by cases hp)⟩
  ·have hf:f∈[(⟨2097152,[(-1,.wt 1)]⟩:LE),⟨2097152,[(-1,.wt 0)]⟩]:=hf;rcases List.mem_cons.1 hf with rfl|hf
   ·show (0:Int)<=2097152+((-1)*(((ρ 1).ns.sum+(ρ 1).ns.length:Nat):Int)+0);rw[n1];have:ns1.sum+ns1.length<=2097152:=hw1;omega
   ·rw[List.mem_singleton.1 hf];show (0:Int)<=2097152+((-1)*(((ρ 0).ns.sum+(ρ 0).ns.length:Nat):Int)+0);rw[n0];have:ns0.sum+ns0.length<=2097152:=hw;omega
  ·have hf:f∈[dW.sl 1 6 0,dW.sl 0 8 0]:=hf;rcases List.mem_cons.1 hf with rfl|hf
   ·show fF _ _ _ _ (.sl (ρ 1).vv 6 0 (ρ 1).ns);rw[e1,n1];exact⟨hl1,.inr (.inl ⟨rfl,h1⟩)⟩
   ·rw[List.mem_singleton.1 hf];show fF _ _ _ _ (.sl (ρ 0).vv 8 0 (ρ 0).ns);rw[e0,n0];exact⟨hl0,.inr (.inl ⟨rfl,h0⟩)⟩
 have g:=sp6_holds _ ρ (rQ W) Γ0 hin rfl (fun k=>k<W.heap.size) W W ⟨fun _=>0,fun _=>0,fun _=>0⟩ #[v0,.agg #[x1],.int .i64 a,.int .i64 b] (uo _ _) (MI _ _) (by
  show _=(aq _ [(ρ 0).vv,.agg [(ρ 1).vv],.int .i64 ((LE.a (.z 2)).ev ρ),.int .i64 ((LE.a (.z 3)).ev ρ)]).toArray;rw[LE.aV,LE.aV,show At.ev ρ (.z 2)=a from rfl,show At.ev ρ (.z 3)=b from rfl];rw[e0,e1];simp only[aq,ak]
  rw[u5 _ _ (hu _ (raw_ref h0)),u5 _ _ (hu _ (raw_ref h1))])
 refine Calls.mono (Ao hf3 hb3 hn3 g) fun e w' ⟨cv,he,v,G',⟨Γ',ρ',p,hp,hv,_,_⟩,_,MR,hc,_⟩=>⟨?_,hc.below⟩
 have hp':v=.bool true:=by
  rw[hv];cases hp with
  |head=>rfl
  |tail _ hp=>cases hp
 rw[he,MR,hp'];simp[ak]
end Go.Rd
namespace Go.Proofs.YtmabojcaklojhaaGreat.overlapEnds
open Go.ChangeShapes Go.WideShapes Go.ChangeAt Go.RowKit
set_option linter.unusedVariables false

theorem own : ownKnob Tryz.prog.godebug = none := by kernel_rfl
theorem kids : Kids Tryz.prog (·< Tryz.prog.types.size) := kids_rows facts.laidOut facts.maps
theorem full : ∀t e, t < Tryz.prog.types.size → Tryz.prog.underlying t = some (.slice e) → 0 < Tryz.prog.cellsOf e := slices_full_of Tryz.prog (by kernel_rfl)
theorem small : ∀t∈ [22, 25, 3, 3], t < Tryz.prog.types.size := by rw[facts.types_size];decide
/-- The forms of what comes in. -/
def okC (c : Nat) : Bool := Nat.ble 1 c && Nat.ble c 14
noncomputable def formB (c : Nat) : Bool := !okC c|| (!Rd.Φ7.fV c && (match Rd.kM Tryz.prog 6 (Rd.Φ7.ty c)with
  |some fk => Rd.lE Rd.Φ7 okC (Rd.Φ7.ks c) fk && (Nat.beq fk.length (aK.af Tryz.prog (Rd.Φ7.ty c)) && Nat.blt 0 fk.length)
  |none => false))
theorem forms_all : (List.range 15).all formB = true := by kernel_rfl
theorem forms (c : Nat)(h : okC c = true) : Rd.Φ7.fV c = false ∧ ∃d fk, Rd.kM Tryz.prog d (Rd.Φ7.ty c) = some fk ∧ Rd.lE Rd.Φ7 okC (Rd.Φ7.ks c) fk = true ∧ fk.length = aK.af Tryz.prog (Rd.Φ7.ty c) ∧ 0 < fk.length := by
  have hc : c < 15 := by
    unfold okC at h;rw[Bool.and_eq_true]at h;have := Nat.le_of_ble_eq_true h.2;omega
  have hb := List.all_eq_true.1 forms_all c (List.mem_range.2 hc);unfold formB at hb;rw[h]at hb;simp only[Bool.not_true, Bool.false_or, Bool.and_eq_true, Bool.not_eq_true']at hb;obtain ⟨h1, h2⟩ := hb;refine ⟨h1, 6, ?_⟩;split at h2
  ·rename_i fk hf;simp only[Bool.and_eq_true]at h2;exact ⟨fk, hf, h2.1, Nat.eq_of_beq_eq_true h2.2.1, Nat.le_of_ble_eq_true h2.2.2⟩
  ·cases h2
theorem flat22 : (match Rd.kM Tryz.prog 6 22 with|some fk => Rd.lE Rd.Φ7 okC [.sl 8] fk|none => false) = true := by kernel_rfl
theorem flat25 : (match Rd.kM Tryz.prog 6 25 with|some fk => Rd.lE Rd.Φ7 okC [.sl 6] fk|none => false) = true := by kernel_rfl
theorem flat_of {t : TypeId}{ks : List Rt.K2}(h : (match Rd.kM Tryz.prog 6 t with|some fk => Rd.lE Rd.Φ7 okC ks fk|none => false) = true) : ∃fk, Rd.kM Tryz.prog 6 t = some fk ∧ Rd.lE Rd.Φ7 okC ks fk = true := by
  split at h
  ·rename_i fk hf;exact ⟨fk, hf, h⟩
  ·cases h

set_option maxRecDepth 100000 in
theorem contract (H : Type)(enc : TypeId×Value → H)(W : World)(base : Nat)(args : Array Value)(ds gs : List (DataW H))(before : List MemPlace)
    (hval : ∀(j : Nat) t v, Tryz.f6.params[j]? = some t → args[j]? = some v → Value.okWide Tryz.prog W .any base t v)
    (hW : DataW.Whole enc Tryz.prog Tryz.f6.params.toList Rows.overlapEndsSpec.vars false W args.toList ds gs before) (hk : Rows.uptoSmall H (ds ++ gs) = true) :
    Calls Tryz.prog 6 args W fun e W' => ∃v, e = .returned v ∧ Rows.overlapEndsSpec.post enc Tryz.prog Tryz.f6 false true false false W args v W' := by
  have hW' := hW;have hlt := hW.lt;obtain ⟨p, q, hA0, hV, rfl, hfz, hnd⟩ := hW;have hA : DataW.TrodAll enc Tryz.prog W 0 (fun _ => true) true Tryz.f6.params.toList args.toList ds p := hA0;have hA2 := hA;rw[Tryz.params6]at hA hval;obtain ⟨v0, vs0, d0, ds0, p0, q0, hargs, rfl, rfl, h0, r0⟩ := trodAll_cons hA;obtain ⟨v1, vs1, d1, ds1, p1, q1, rfl, rfl, rfl, h1, r1⟩ := trodAll_cons r0;obtain ⟨v2, vs2, d2, ds2, p2, q2, rfl, rfl, rfl, h2, r2⟩ := trodAll_cons r1;obtain ⟨v3, vs3, d3, ds3, p3, q3, rfl, rfl, rfl, h3, r3⟩ := trodAll_cons r2;obtain ⟨rfl, rfl, rfl⟩ := trodAll_nil r3;obtain rfl : args = #[v0, v1, v2, v3] := by cases args;simp_all
  obtain ⟨rfl, rfl⟩ := trodVars_none hV;have hb : Rows.uptoBulkAll ([d0, d1, d2, d3] : List (DataW H)) ≤ 1048576 := of_decide_eq_true hk;simp only[Rows.uptoBulkAll]at hb;obtain ⟨o, l, c, rfl⟩ := Rd.E6 Tryz.underlying22 (hval 0 22 v0 rfl rfl);obtain ⟨cs, rfl, hcs⟩ := Rd.Bz Tryz.underlying25 (hval 1 25 v1 rfl rfl);obtain ⟨a2, rfl, rfl, rfl, w2⟩ := open_int Tryz.underlying3 (hval 2 3 v2 rfl rfl) h2;obtain ⟨a3, rfl, rfl, rfl, w3⟩ := open_int Tryz.underlying3 (hval 3 3 v3 rfl rfl) h3;obtain ⟨n0, t0⟩ := h0;obtain ⟨n1, t1⟩ := h1;obtain ⟨fk0, f0, g0⟩ := flat_of (t := 22) (ks := [.sl 8]) flat22;obtain ⟨fk1, f1, g1⟩ := flat_of (t := 25) (ks := [.sl 6]) flat25;obtain ⟨e0, fs0, x0, y0⟩ := Rd.BA forms n0 _ _ _ _ t0 (by omega) _ _ _ f0 g0;obtain ⟨e1, fs1, x1, y1⟩ := Rd.BA forms n1 _ _ _ _ t1 (by omega) _ _ _ f1 g1;have l1 : cs.toList.length = 1 := by rw[← Rd.yN g1]at e1;exact e1
  obtain ⟨x, hx⟩ := List.length_eq_one_iff.1 l1;obtain rfl : cs = #[x] := by cases cs;simp_all
  obtain ⟨ns0, z1, z2, z3⟩ := Rd.vz (v := Rd.jl (.slice o l c)) x0;obtain ⟨ns1, z4, z5, z6⟩ := Rd.vz (v := Rd.jl x) x1;have z3 : Rt.jj Rd.Φ7 fs0 = ns0.sum + ns0.length := z3;have hw : ns0.sum + ns0.length ≤ Rt.WU := by show _ ≤ 2097152;omega
  have z6 : Rt.jj Rd.Φ7 fs1 = ns1.sum + ns1.length := z6;have hw1 : ns1.sum + ns1.length ≤ Rt.WU := by show _ ≤ 2097152;omega
  clear hA0;simp only[List.append_nil]at hW' hlt hA2;refine (Rd.law6 Tryz.func6 (by kernel_rfl) (by kernel_rfl) W z1 z2 hw z4 z5 hw1 a2 a3).mono fun e W' ⟨he, hg⟩ => ?_;subst he
  refine ⟨_, rfl, aK.vd (pv := []) hW' (fun _ _ _ => (trodAll_cons_mk (shut_bool Tryz.underlying4 _) trodAll_mk0)) (fun sp hsp => ?_) (fun _ _ => rfl) (List.append_nil _).symm
    hg (ok_one (by kernel_rfl) rfl (okWide_bool_mk Tryz.underlying4 _))⟩
  exact DataW.TrodAll.respare kids full (by rw[Tryz.params6];exact small) (Rd.pK (fun p hp => Rd.JW hg (hlt p hp)) hA2) hsp

set_option maxRecDepth 100000 in
theorem lifted (os : Os)(started : os.Started)(H : Type)(enc : TypeId×Value → H)(F : Stop.Interp) :
    ReturnsInHanded {} Tryz.checked os 6 .any ((Rows.OpenSpec.upto Rows.overlapEndsSpec).pre6 enc Tryz.prog Tryz.f6 Rows.overlapEndsUptoRow.domain false) (((Rows.OpenSpec.upto Rows.overlapEndsSpec).at F).post enc Tryz.prog Tryz.f6 false true false false) := by
  refine returnsInHanded_of_cond (C := Tryz.checked) (s := Rows.OpenSpec.upto Rows.overlapEndsSpec) (k := Rows.uptoSmall) rfl own started (by kernel_rfl) Tryz.func6
    (OpenSpec.witness (enc := enc) (C := Tryz.checked) (s := Rows.OpenSpec.upto Rows.overlapEndsSpec) (k := Rows.uptoSmall) rfl false ⟨#[], #[.slice none 0 0, .agg #[.slice none 0 0], .int .i64 0, .int .i64 0], []⟩ 8 (by kernel_rfl) (by kernel_rfl) (by kernel_rfl)
      (x := ([.nil, .agg [.nil], .lit (.int .i64 0), .lit (.int .i64 0)], [], [])) (by kernel_rfl) rfl (by kernel_rfl)) ?_
  intro W base args ds gs before hval hW _ hk _;exact contract H enc W base args ds gs before hval hW hk

theorem over : Rows.overlapEndsUptoRow.holds Tryz.pinned (Rows.OpenSpec.upto Rows.overlapEndsSpec) :=
  OpenClaim.holds_of_cond 6 Tryz.f6 rfl rfl rfl rfl rfl rfl rfl ⟨rfl, rfl, rfl, rfl, rfl⟩ rfl rfl rfl rfl rfl (by kernel_rfl) Tryz.func6 facts.closed6
    (of_decide_eq_true (by kernel_rfl)) (by unfold Func.isWrapper;first|(rw[if_pos (by decide +kernel)];kernel_rfl)|(rw[if_neg (by decide +kernel)];exact ⟨rfl, rfl⟩))
    (fun os started H enc _ F => lifted os started H enc F)

/-- The statement. -/
theorem proved : Rows.OverlapEndsUptoSaid := over
#print axioms proved
end Go.Proofs.YtmabojcaklojhaaGreat.overlapEnds
