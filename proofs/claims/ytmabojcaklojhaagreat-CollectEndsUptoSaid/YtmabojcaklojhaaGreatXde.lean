/- Part Xde of the proof of CollectEnds: no condition. -/
import Derived.Test.YtmabojcaklojhaaGreatXdd
import Derived.Test.YtmabojcaklojhaaGreatXad
set_option linter.unusedSimpArgs false
set_option linter.unusedVariables false
namespace Go.Rd
open Go.aI Go.RowKit Go.Rt
def Bt (s:SS)(L:List (Nat×SV)):SS:=⟨s.nx,L,s.os,s.ty,s.gs,s.fs,s.bs,s.pw,s.ats,s.cU,s.ne,s.fz,s.sb⟩
def xb:List Tmp->List SV->List (Nat×SV)->List (Nat×SV)
 |p::ps,v::vs,L=>xb ps vs ((p,v)::L)
 |_,_,L=>L
def yS (cf:Cf)(rk:Rk)(gu:Gu)(ps:List Tmp)(x y:Code)(l:Nat)(L:List (Nat×SV))(vs:List SV)(d:Option Nat)(s:SS)(K:SS->R):R:=match d with
    |some d=>bif Nat.beq ps.length vs.length&&s.ok then ex cf rk gu x l (Bt s (xb ps vs L)) (JN (fun _ s=>.bad 522 s) fun s2=>ex cf rk gu y l s2 (JN (fun _ s=>.bad 521 s) fun s3=>K (fZ (Bt s3 s.L) d (sc (.bool (.k true))))))else .bad 523 s
    |none=>.bad 524 s
def rR:Nat->List SV->List (Nat×SV)
 |_,[]=>[]
 |i,v::l=>(i,v)::rR (i+1) l
def TM (cf:Cf)(rk:Rk)(gu:Gu)(gi:Nat->Gu)(g:Operand)(ps:List Tmp)(x y:Code)(l:Nat)(s:SS)(K:SS->R):R:=match (GX s g).bind Dj with
 |some (f,[],cs)=>(match cf.P.funcs[f]? with
  |some fn=>(match fn.body with
   |some cb=>bif Nat.ble (cs.length+1) fn.ntmps&&(fn.results.isEmpty&&(!(fn.name == "runtime.NumGoroutine")&&((cQ x&&cQ y)&&(ps.all (fun p=>Nat.blt p cf.nt)&&s.os.all (fun o=>o.Na&&o.lt s.nx)))))then
    fresh s fun q s0=>ex ⟨cf.P,cf.Φ,fn.ntmps,cf.keys⟩ ⟨rk.aU,rk.str,rk.ms,some (q,q+1,yS cf ⟨rk.aU,rk.str,rk.ms,none⟩ gu ps x y l s.L)⟩ (gi f) cb 0 (Bt s0 ((0,.yl q)::rR 1 (zf cs))) (fun e s1=>match e with
     |.ext _=>.bad 520 s1
     |_=>K (Bt s1 s.L))
    else .bad 525 s
   |none=>.bad 526 s)
  |none=>.bad 527 s)
 |_=>.bad 528 s
def LR (cf:Cf)(rk:Rk)(gu:Gu)(gi:Nat->Gu):Bool->Code->Nat->SS->(Ex->SS->R)->R
 |rf,.seq x y,l,s,K=>LR cf rk gu gi rf x l s (JN K fun s=>LR cf rk gu gi (rf&&cQ x) y l s K)
 |rf,.block id x,l,s,K=>bif cQ x then ex cf rk gu (.block id x) l s K else LR cf rk gu gi rf x id s (QJ id K (K .eJ))
 |rf,.rangeFunc g ps x y,l,s,K=>bif rf then TM cf rk gu gi g ps.toList x y l s (K .eJ)else .bad 511 s
 |_,co,l,s,K=>ex cf rk gu co l s K
section
variable {c:Cx}{T:Tm}{G G':GH}{Γ Γ':dy}{ρ ρ':aZ}{s0 s s':SS}{cf:Cf}{rk:Rk}{gu:Gu}{gi:Nat->Gu}{co:Code}
theorem tz {Φ:Forms}{l nt:Nat}{tm:Tm}{ps:Array Tmp}{x y:Code}{b:Bool}{g':Gh}(hl:G l=some (.eI nt tm ps x y b))(hm:Γ.m l=none){S:List Nat}(hS:l∈S):Rl Φ S [] G Γ (dj G l g') Γ :=
 ⟨fun k _ hn h0=>⟨aV fun e=>hn (e▸hS),h0⟩,⟨fun k el size C h=>aV (fun e=>by subst e;rw[hl]at h;cases h),fun k el size C h=>⟨C,by rw[aV (fun e=>by subst e;rw[hl]at h;cases h)];exact h⟩⟩,fun _ _ h _ _=>h,dk.refl _,fun _ _ _=>rfl,
  fun k h=>by
   by_cases e:k=l
   ·subst e;rw[au];rfl
   ·rw[aV e];exact h,fun k cc g h _=>aV fun e=>by subst e;rw[hm]at h;cases h⟩
theorem yT {Φ:Forms}{P:Program}{l nt:Nat}{tm:Tm}{ps:Array Tmp}{x y:Code}{b:Bool}{g':Gh}(ht:HT P Φ G Γ)(hl:G l=some (.eI nt tm ps x y b))(hm:Γ.m l=none):HT P Φ (dj G l g') Γ :=
 HT.Vp (b:=l) ht (tz (Φ:=Φ) (S:=[l]) hl hm (zaz _)).r (dk.refl _) rfl (fun _ _=>rfl) (fun k hk=>aV hk) fun z hz=>by rw[hm]at hz;cases hz
theorem LU {Φ:Forms}{S Sg:List Nat}{l nt:Nat}{tm:Tm}{ps:Array Tmp}{x y:Code}{b:Bool}{g0:Gh}(h:Rl Φ S Sg (dj G l g0) Γ G' Γ')(hl:G l=some (.eI nt tm ps x y b))(hm:Γ.m l=none)(hS:l∉S):Rl Φ S Sg G Γ (dj G' l (.eI nt tm ps x y b)) Γ':=by
 have hm':Γ'.m l=none:=(h.g l (by rw[au];rfl) hS hm).2;refine⟨fun k hk hn h0=>?_,⟨fun k el size C hk=>?_,fun k el size C hk=>?_⟩,h.t,h.le,h.gs,fun k hk=>?_,fun k cc g hk hi=>?_⟩
 ·by_cases e:k=l
  ·subst e;rw[au,hl];exact⟨rfl,hm'⟩
  ·rw[aV e];have:=h.g k (by rw[aV e];exact hk) hn h0;rw[aV e]at this;exact this
 ·have e:k≠l:=fun e=>by subst e;rw[hl]at hk;cases hk
  rw[aV e];have:=h.r.raw k el size C (by rw[aV e];exact hk);rw[aV e]at this;exact this
 ·have e:k≠l:=fun e=>by subst e;rw[hl]at hk;cases hk
  rw[aV e];exact h.r.Q6 k el size C (by rw[aV e];exact hk)
 ·by_cases e:k=l
  ·subst e;rw[au];rfl
  ·rw[aV e];exact h.OO k (by rw[aV e];exact hk)
 ·have e:k≠l:=fun e=>by subst e;rw[hm]at hk;cases hk
  rw[aV e];have:=h.im k cc g hk hi;rw[aV e]at this;exact this
theorem UR {P:Program}{Φ:Forms}{os:List Own}{dQ:List TF}{gs:List (Nat×Gd×Bool)}{L:List (Nat×AV)}{T1:Tm}{n1 nt1:Nat}(ht:HT P Φ G Γ)(ho:∀o∈os,dO P Φ G Γ o)(hnd:(cm os).Nodup)(hty:∀f∈dQ,fF P Φ G Γ f)(hgs:∀p∈gs,p.1<Γ.ng/\Γ.gd p.1=p.2.1/\(p.2.2=true->p.2.1.fz=false/\0<p.1))(hml:T1.ml=[])(hL:∀k v,lk L k=some v->T1.at k=v) :
  Q ⟨P,Φ,n1,nt1,cm os,(gs.filter fun p=>p.2.2).map (·.1),G,Γ,.e,z 0,[]⟩ T1 G Γ ⟨L,os,dQ,gs⟩ :=
 ⟨hml,hL,fun b x h=>(ht.b b x h).told,Rl.refl _ _ _ _ _,ju.refl _ _,ho,fun o h b hb=>.inl (eF.2 ⟨o,h,hb⟩),hnd,ht,hty,fun p hp=>by
  obtain⟨q1,q2,q3⟩:=hgs p hp
  exact⟨q1,q2,fun hw=>⟨.inl (List.mem_map.2 ⟨p,List.mem_filter.2 ⟨hp,hw⟩,rfl⟩),q3 hw⟩⟩⟩
theorem Bu:∀(ps:List Tmp)(vs:List SV)(L:List (Nat×SV))(tm:Tm),(∀k v,lk (L.map fun p=>(p.1,p.2.den ρ)) k=some v->tm.at k=v)->∀{k:Nat}{v:AV},lk ((xb ps vs L).map fun p=>(p.1,p.2.den ρ)) k=some v->(vw ps (vs.map (SV.den ρ)) tm).at k=v
 | [],vs,L,tm,h,k,v,hk=>by cases vs<;>exact h k v hk
 |p::ps,[],L,tm,h,k,v,hk=>h k v hk
 |p::ps,w::vs,L,tm,h,k,v,hk=>by
  refine Bu ps vs ((p,w)::L) (tm.put p (w.den ρ)) (fun k v hk=>?_) hk;rw[zal,x7]at hk;by_cases e:p=k
  ·subst e;rw[if_pos rfl]at hk;rw[Tm.ec];exact Option.some.inj hk
  ·rw[if_neg e]at hk;rw[Tm.fT (fun h=>e h.symm)];exact h k v hk
theorem Q.P6 {st:St}(hq:Q c T G Γ st){l:Nat}(hS:l∉c.S)(h0:(c.G0 l).isSome=true){o:Own}(ho:o∈st.os){b:Nat}(hb:o.aS=some b):b≠l:=fun e=>by
 subst e;rcases hq.new o ho b hb with h|h
 ·exact hS h
 ·rw[h]at h0;cases h0
theorem leave {S Sg:List Nat}{osA:List Own}(hk:Ok c T G Γ ρ s)(hok:s.ok=true)(hS:S=cm (s.den ρ).os)(hSg:Sg=(((s.den ρ).gs.filter fun p=>p.2.2).map (·.1)))(ha:cM s.nx ρ ρ')(ho:Out c.P c.Φ S Sg G Γ G' Γ' ρ' s')(hgr:ju c.n0 G G'):Ok c T G' Γ' ρ' (Bt s' s.L):=by
 subst hS hSg
 have hQ:=hk.q.call (osA:=[]) (osB:=(s.den ρ).os) (os':=s'.os.map (SO.den ρ')) (tys':=s'.ty.map (c6.den ρ')) (gsA:=[]) (gs':=s'.gs.map fun p=>(ig ρ' p.1,(ρ' p.2.1).gg,p.2.2)) (by simp) ho.rl hgr ho.ht
  (fun o h=>by obtain⟨o0,m1,rfl⟩:=List.mem_map.1 h;exact ho.own o0 m1) ho.nd (fun o h b hb=>by obtain⟨o0,m1,rfl⟩:=List.mem_map.1 h;exact ho.new o0 m1 b hb) (fun f h=>by obtain⟨f0,m1,rfl⟩:=List.mem_map.1 h;exact ho.ty f0 m1)
  (fun g hg=>by
   obtain⟨p,h1,rfl⟩:=List.mem_map.1 hg;obtain⟨h2,h3⟩:=List.mem_filter.1 h1;exact ((hk.q.gs p h2).2.2 h3).1) (fun p hp=>by cases hp) (fun p hp=>by
   obtain⟨q0,m1,rfl⟩:=List.mem_map.1 hp;obtain⟨a1,a2,a3⟩:=ho.gs q0 m1;refine⟨a1,a2,fun hw=>?_⟩;obtain⟨a4,a5⟩:=a3 hw;refine⟨?_,a5⟩;rcases a4 with a4|a4
   ·obtain⟨p,h1,h2⟩:=List.mem_map.1 a4;obtain⟨h3,h4⟩:=List.mem_filter.1 h1;have:=((hk.q.gs p h3).2.2 h4).1;rw[h2]at this;exact this
   ·exact .inr (zam hk.q.rl.le.ng a4)) (fun o h=>by cases h) (fun o h=>by cases h)
 obtain⟨e1,_⟩:=SS.bG hok ha;refine⟨⟨ho.sat.fs,ho.sat.bs,ho.sat.pw,ho.sat.ats,ho.sat.cU,ho.sat.ne,ho.sat.fz,ho.sat.sb⟩,hQ.iq (fun k v h=>?_) ⟨[],by simp[Bt,SS.den]⟩ (fun f hf=>zbo _ hf) (fun p hp=>zbo _ hp)⟩;have h:lk (s.L.map fun p=>(p.1,p.2.den ρ')) k=some v:=h;have e2:(s.L.map fun p=>(p.1,p.2.den ρ'))=s.L.map fun p=>(p.1,p.2.den ρ):=congrArg St.L e1;rw[e2]at h;exact h
theorem Ok.out {P:Program}{Φ:Forms}{n1 nt1:Nat}{S Sg:List Nat}{G0:GH}{Γ0:dy}{hp:Tr AO}{nx:Pz}{ml:List Pz}(h:Ok ⟨P,Φ,n1,nt1,S,Sg,G0,Γ0,hp,nx,ml⟩ T G Γ ρ s):Out P Φ S Sg G0 Γ0 G Γ ρ s :=
 ⟨h.sat,h.q.rl,h.q.ht,fun o ho=>h.q.own _ (List.mem_map.2 ⟨o,ho,rfl⟩),h.q.nd,fun o ho=>h.q.new _ (List.mem_map.2 ⟨o,ho,rfl⟩),fun f hf=>h.q.ty _ (List.mem_map.2 ⟨f,hf,rfl⟩),fun p hp=>h.q.gs _ (List.mem_map.2 ⟨p,hp,rfl⟩)⟩
theorem JP {st:St}(hq:Q c T G Γ st):∀p∈st.gs,p.1<Γ.ng/\Γ.gd p.1=p.2.1/\(p.2.2=true->p.2.1.fz=false/\0<p.1):=fun p hp=>by
 obtain⟨q1,q2,q3⟩:=hq.gs p hp;exact⟨q1,q2,fun hw=>(q3 hw).2⟩
theorem GL {c1:Cx}{psA:Array Tmp}{x y:Code}{l q n:Nat}{L:List (Nat×SV)}{tm:Tm}{ρ0:aZ}(hP:cf.P=c1.P)(hΦ:cf.Φ=c1.Φ)(hK:eX cf)(hmix:c1.P.follows .mixedOrders=true)(hR:∀cx:Cx,cx.P=c1.P->cx.Φ=c1.Φ->jg cx rk ρ0)(hm:rk.ur n=true)
  (hx:cQ x=true) (hy:cQ y=true) (hps:∀p∈psA.toList,p<cf.nt) (hrec:c1.G0 (ρ0 q).nn=some (.eI cf.nt tm psA x y false)) (hg0:c1.Γ0.m (ρ0 q).nn=none) (hS:(ρ0 q).nn∉c1.S) (hml:tm.ml=[]) (hq:q<n)
  (hL:∀ρ,cM n ρ0 ρ->∀k v,lk (L.map fun p=>(p.1,p.2.den ρ)) k=some v->tm.at k=v):RO c1 q n (yS cf rk gu psA.toList x y l L) ρ0:=by
 intro ρ ops i dd fo xs vs T2 G2 Γ2 s2 K ha hn hg hd hlt hc hf hv h hk;unfold yS at h;cases dd with
 |none=>cases h
 |some d =>
  simp only at h;cases hb:(Nat.beq psA.toList.length vs.length&&s2.ok)with
  |false=>rw[hb]at h;cases h
  |true =>
   rw[hb]at h;simp only[cond_true]at h;rw[za]at hb;obtain⟨hlen,hok⟩:=hb;have hlen:=ai hlen;have elq:(ρ q).nn=(ρ0 q).nn:=by rw[ha q hq]
   generalize hl0:(ρ0 q).nn=lb at *;rw[elq]at hf;have hsome0:(c1.G0 lb).isSome=true:=by rw[hrec];rfl
   obtain⟨g2,m2⟩:=hk.q.rl.g lb hsome0 hS hg0;rw[hrec]at g2
   have hS2:lb∉cm (s2.den ρ).os:=fun hb=>by
    obtain⟨o,m1,m3⟩:=eF.1 hb;exact Q.P6 hk.q hS hsome0 m1 m3 rfl
   have hsome2:(G2 lb).isSome=true:=by rw[g2];rfl
   refine gm.mono (gm.VV (R0:=fun G6=>∃Γ6 ρ6 s6,(K (fZ (Bt s6 s2.L) d (sc (.bool (.k true))))).Ok/\cM s2.nx ρ ρ6/\s2.nx<=s6.nx/\Out c1.P c1.Φ (cm (s2.den ρ).os) (((s2.den ρ).gs.filter fun p=>p.2.2).map (·.1)) G2 Γ2 G6 Γ6 ρ6 s6) (R:=fun T' hp' nx' G'=>hp'=c1.hp/\nx'=c1.nx/\∃Γ' ρ' s',(K s').Ok/\cM s2.nx ρ ρ'/\s2.nx<=s'.nx/\Ok c1 T' G' Γ' ρ' s') hg hd (hlt d rfl) hc hf (Dh hk.q hv) g2 hx hy hps (by rw[zcw,<-hlen,zdj]) (Di vs ρ) hml (fun n2=>?_) fun G' hr0 hgr=>?_) fun _ _ _ _ h=>h
   ·-- the round
    have q2:Q ⟨c1.P,c1.Φ,n2,cf.nt,cm (s2.den ρ).os,((s2.den ρ).gs.filter fun p=>p.2.2).map (·.1),G2,Γ2,.e,z 0,[]⟩ (vw psA.toList (vs.map (SV.den ρ)) tm) G2 Γ2 ((Bt s2 (xb psA.toList vs L)).den ρ) :=
     UR hk.q.ht hk.q.own hk.q.nd hk.q.ty (JP hk.q) (by rw[xZ];exact hml) fun k v hkv=>Bu psA.toList vs L tm (hL ρ ha) hkv
    have o2:Ok ⟨c1.P,c1.Φ,n2,cf.nt,cm (s2.den ρ).os,((s2.den ρ).gs.filter fun p=>p.2.2).map (·.1),G2,Γ2,.e,z 0,[]⟩ (vw psA.toList (vs.map (SV.den ρ)) tm) G2 Γ2 ρ (Bt s2 (xb psA.toList vs L)):=⟨⟨hk.sat.fs,hk.sat.bs,hk.sat.pw,hk.sat.ats,hk.sat.cU,hk.sat.ne,hk.sat.fz,hk.sat.sb⟩,q2⟩;have hm2:rk.ur s2.nx=true:=Rk.EF hm hn;refine dD (lA (s:=Bt s2 (xb psA.toList vs L)) (c:=⟨c1.P,c1.Φ,n2,cf.nt,cm (s2.den ρ).os,((s2.den ρ).gs.filter fun p=>p.2.2).map (·.1),G2,Γ2,.e,z 0,[]⟩) hP hΦ rfl hK hmix (jg.bG (hR _ (by rfl) (by rfl)) hm ha) hm2 h o2) fun e T4 hp4 nx4 G4 hh=>?_;obtain⟨e1,e2,Γ4,ρ4,s4,k1,k2,k3,k4⟩:=hh;cases e with
    |ext j=>cases k1
    |ret=>cases k1
    |eJ =>
     obtain⟨g4,m4⟩:=k4.q.rl.g lb hsome2 hS2 m2;have g4:G4 lb=some (.eI cf.nt tm psA x y false):=by rw[g4];exact g2
     have n4:∀o∈(s4.den ρ4).os,∀b,o.aS=some b->b≠lb:=fun o ho b hb=>Q.P6 k4.q hS2 hsome2 ho hb
     have hS4:lb∉cm (s4.den ρ4).os:=fun hb=>by
      obtain⟨o,m1,m3⟩:=eF.1 hb;exact n4 o m1 lb m3 rfl
     refine⟨rfl,e1,e2,g4,?_⟩;have rl4:=tz (Φ:=c1.Φ) (S:=[lb]) (g':=.eI cf.nt tm psA x y true) g4 m4 (zaz _)
     have q3:Q ⟨c1.P,c1.Φ,n2,cf.nt,cm (s4.den ρ4).os,((s4.den ρ4).gs.filter fun p=>p.2.2).map (·.1),dj G4 lb (.eI cf.nt tm psA x y true),Γ4,.e,z 0,[]⟩ T4 (dj G4 lb (.eI cf.nt tm psA x y true)) Γ4 (s4.den ρ4) :=
      UR (yT k4.q.ht g4 m4) (fun o ho=>(k4.q.own o ho).bE rl4 (fun b hb hm=>n4 o ho b hb (List.mem_singleton.1 hm)) (fun _ _=>rfl) (fun _ b cc g hb=>aV fun e=>by subst e;rw[m4]at hb;cases hb)) k4.q.nd (fun f hf=>(k4.q.ty f hf).le rl4.r (dk.refl _)) (JP k4.q) k4.q.ml k4.q.at_
     refine dD (lA (c:=⟨c1.P,c1.Φ,n2,cf.nt,cm (s4.den ρ4).os,((s4.den ρ4).gs.filter fun p=>p.2.2).map (·.1),dj G4 lb (.eI cf.nt tm psA x y true),Γ4,.e,z 0,[]⟩) hP hΦ rfl hK hmix (jg.bG (jg.bG (hR _ (by rfl) (by rfl)) hm ha) hm2 k2) (Rk.EF hm2 k3) (show (ex cf rk gu y l s4 _).Ok from k1) ⟨k4.sat,q3⟩) fun e T5 hp5 nx5 G5 hh5=>?_;obtain⟨f1,f2,Γ5,ρ5,s5,j1,j2,j3,j4⟩:=hh5;cases e with
     |ext j=>cases j1
     |ret=>cases j1
     |eJ =>
      obtain⟨g5,m5⟩:=j4.q.rl.g lb (by show ((dj G4 lb _) lb).isSome=true;rw[au];rfl) hS4 m4;have g5:G5 lb=some (.eI cf.nt tm psA x y true):=by rw[g5];exact au _ _ _
      have n5:∀o∈(s5.den ρ5).os,∀b,o.aS=some b->b≠lb:=fun o ho b hb=>Q.P6 j4.q hS4 (by show ((dj G4 lb _) lb).isSome=true;rw[au];rfl) ho hb;have rl5:=tz (Φ:=c1.Φ) (S:=[lb]) (g':=.eI cf.nt tm psA x y false) g5 m5 (zaz _)
      have hSS:∀b∈cm (s4.den ρ4).os,b∈cm (s2.den ρ).os∨G2 b=none:=fun b hb=>by
       obtain⟨o,m1,m3⟩:=eF.1 hb;exact k4.q.new o m1 b m3
      have hgg:∀g∈((s4.den ρ4).gs.filter fun p=>p.2.2).map (·.1),g∈((s2.den ρ).gs.filter fun p=>p.2.2).map (·.1)∨Γ2.ng<=g:=fun g hg=>by
       obtain⟨p,h1,rfl⟩:=List.mem_map.1 hg;obtain⟨h2,h3⟩:=List.mem_filter.1 h1;exact ((k4.q.gs p h2).2.2 h3).1
      refine⟨rfl,g5,(k4.q.grow.trans (dG (.inl (by rw[g4];rfl)))).trans j4.q.grow,Γ5,ρ5,s5,j1,k2.trans j2 k3,zam k3 j3,j4.sat,?_,yT j4.q.ht g5 m5,fun o ho=>?_,j4.q.nd,fun o ho b hb=>?_,fun f hf=>?_,fun p hp=>?_⟩
      ·exact k4.q.rl.trans (P:=c1.P) (fun b x h=>(hk.q.ht.b b x h).told) (LU j4.q.rl g4 m4 hS4) hSS hgg
      ·exact (j4.q.own _ (List.mem_map.2 ⟨o,ho,rfl⟩)).bE rl5 (fun b hb hm=>n5 _ (List.mem_map.2 ⟨o,ho,rfl⟩) b hb (List.mem_singleton.1 hm)) (fun _ _=>rfl) (fun _ b cc g hb=>aV fun e=>by subst e;rw[m5]at hb;cases hb)
      ·rcases j4.q.new _ (List.mem_map.2 ⟨o,ho,rfl⟩) b hb with hb'|hb'
       ·exact hSS b hb'
       ·right;have e:=n5 _ (List.mem_map.2 ⟨o,ho,rfl⟩) b hb;have hb':dj G4 lb (.eI cf.nt tm psA x y true) b=none:=hb';rw[aV e]at hb';cases hc:G2 b with
        |none=>rfl
        |some g=>have:=k4.q.grow.old b (by show (G2 b).isSome=true;rw[hc];rfl);rw[hb']at this;cases this
      ·exact (j4.q.ty _ (List.mem_map.2 ⟨f,hf,rfl⟩)).le rl5.r (dk.refl _)
      ·obtain⟨a1,a2,a3⟩:=j4.q.gs _ (List.mem_map.2 ⟨p,hp,rfl⟩);refine⟨a1,a2,fun hw=>?_⟩;obtain⟨a4,a5⟩:=a3 hw;refine⟨?_,a5⟩;rcases a4 with a4|a4
       ·exact hgg _ a4
       ·exact .inr (zam k4.q.rl.le.ng a4)
   ·-- behind it
    obtain⟨Γ6,ρ6,s6,w1,w2,w3,w4⟩:=hr0;have:=leave (osA:=[]) hk hok rfl rfl w2 w4 hgr;exact⟨rfl,rfl,Γ6,ρ6,_,w1,w2,w3,this.put (v:=sc (.bool (.k true))) d⟩
theorem yU:∀{l:List SV}{i k:Nat}{v:AV},lk ((rR i l).map fun p=>(p.1,p.2.den ρ)) k=some v->i<=k/\(l.map (SV.den ρ))[k-i]?=some v
 | [],i,k,v,h=>by cases h
 |x::l,i,k,v,h=>by
  have h:(bif Nat.beq i k then some (x.den ρ)else lk ((rR (i+1) l).map fun p=>(p.1,p.2.den ρ)) k)=some v:=h;cases hb:Nat.beq i k with
  |true=>rw[hb]at h;cases h;have:=ai hb;subst this;exact⟨zad _,by simp⟩
  |false =>
   rw[hb]at h;obtain⟨h1,h2⟩:=yU h;refine⟨by omega,?_⟩;rw[show k-i=(k-(i+1))+1 by omega,zal,zbm];exact h2
noncomputable def qM:List AV->Nat->Tm->Tm
 | [],_,t=>t
 |v::vs,i,t=>qM vs (i+1) (t.put i v)
theorem Bv (k:Tm->Rs):∀(vs:List AV)(i:Nat)(t:Tm),iP vs i t k=k (qM vs i t)
 | [],i,t=>rfl
 |v::vs,i,t=>by
  show (tC i).run t v (fun t=>bj (Nat.succ i) fun i=>iP vs i t k)=_;rw[lM,aG,Bv k vs (i+1)];rfl
theorem Bw:∀(vs:List AV)(i:Nat)(t:Tm),(qM vs i t).ml=t.ml/\∀j,(qM vs i t).at j=if i<=j/\j<i+vs.length then (vs[j-i]?).getD aE else t.at j
 | [],i,t=>⟨rfl,fun j=>by rw[if_neg (by simp only[zei];omega)];rfl⟩
 |v::vs,i,t=>by
  obtain⟨h1,h2⟩:=Bw vs (i+1) (t.put i v);refine⟨by rw[qM,h1,Tm.oJ],fun j=>?_⟩;rw[qM,h2 j,zbi];by_cases h1:i+1<=j/\j<i+1+vs.length
  ·rw[if_pos h1,if_pos (by omega),show j-i=(j-(i+1))+1 by omega,zbm]
  ·rw[if_neg h1];by_cases h2:j=i
   ·subst h2;rw[Tm.ec,if_pos (by omega),zdr];rfl
   ·rw[Tm.fT h2,if_neg (by omega)]
def KX (c:Cx)(b:Bool)(s:SS)(ρ:aZ)(K:Ex->SS->R)(e:Ex)(T:Tm)(hp:Tr AO)(nx:Pz)(G:GH):Prop :=
 ∃hp1 nx1 ml1,(b=true->hp1=c.hp/\nx1=c.nx/\ml1=c.ml)/\((hp1=c.hp/\nx1=c.nx/\ml1=c.ml)∨(hp1=(Tr.e:Tr AO).set (z 0) .fa/\nx1=(z 0).succ/\ml1=[z 0]))/\KR ⟨c.P,c.Φ,c.n0,c.nt,c.S,c.Sg,c.G0,c.Γ0,hp1,nx1,ml1⟩ s ρ K e T hp nx G
theorem KX.of {K:Ex->SS->R}{e:Ex}{hp:Tr AO}{nx:Pz}{b:Bool}(h:KR c s ρ K e T hp nx G):KX c b s ρ K e T hp nx G:=⟨c.hp,c.nx,c.ml,fun _=>⟨rfl,rfl,rfl⟩,.inl ⟨rfl,rfl,rfl⟩,h⟩
theorem jg.any {c':Cx}(h:jg c rk ρ)(hP:c'.P=c.P)(hΦ:c'.Φ=c.Φ)(hy:rk.yh=none):jg c' rk ρ:=⟨fun sp h1 m h2=>by rw[hP,hΦ];exact h.sp sp h1 m h2,fun q n hh e=>by rw[hy]at e;cases e⟩
theorem P7 {g:Operand}{psA:Array Tmp}{x y:Code}{l:Nat}{K':Ex->SS->R}(hP:cf.P=c.P)(hΦ:cf.Φ=c.Φ)(hnt:cf.nt=c.nt)(hK:eX cf)(hmix:c.P.follows .mixedOrders=true)(hR:jg c rk ρ)(hm:rk.ur s.nx=true)(hy0:rk.yh=none)(hcx:c.hp=.e/\c.nx=z 0/\c.ml=[])
  (h:(TM cf rk gu gi g psA.toList x y l s (K' .eJ)).Ok) (hk:Ok c T G Γ ρ s):dx c.P c.n0 c.nt (.rangeFunc g psA x y) T c.hp c.nx G (KX c false s ρ K'):=by
 unfold TM at h;split at h
 ·rename_i o f cs hfv;cases hov:GX s g with
  |none=>rw[hov]at hfv;cases hfv
  |some fv =>
   rw[hov]at hfv;have hfn:Dj fv=some (f,[],cs):=hfv
   have hden:fv.den ρ=.func (.func f) [] (aB ρ cs):=by
    unfold Dj at hfn;split at hfn
    ·cases hfn;rfl
    ·cases hfn;rfl
    ·cases hfn
   split at h
   ·rename_i fn hff;split at h
    ·rename_i cb hbody;cases hb:(Nat.ble (cs.length+1) fn.ntmps&&(fn.results.isEmpty&&(!(fn.name == "runtime.NumGoroutine")&&((cQ x&&cQ y)&&(psA.toList.all (fun p=>Nat.blt p cf.nt)&&s.os.all (fun o=>o.Na&&o.lt s.nx))))))with
     |false=>rw[hb]at h;cases h
     |true =>
      rw[hb]at h;simp only[cond_true]at h;simp only[za,zaj]at hb;obtain⟨b1,b2,b3,⟨b4,b5⟩,b6,b7⟩:=hb;rw[hcx.1,hcx.2.1];rw[hP]at hff;have hevg:bH c.nt T g (.func (.func f) [] (aB ρ cs)):=by rw[<-hden];exact pq hov hk.q
      have hcap:lC (aB ρ cs):=fp cs ρ;refine AQ hff (by rw[hbody];rfl) b3 hevg hcap fun lb hlb hn0 hTnf=>?_;obtain⟨p1,p2,p3,p4⟩:=aA h hk (.n lb);have hok:=dB h;generalize hρ1:ρ.up s.nx (.n lb)=ρ1 at *;have hlq:(ρ1 s.nx).nn=lb:=by rw[p4];rfl
      have ecs:aB ρ1 cs=aB ρ cs:=by
       have e1:fv.den ρ1=fv.den ρ:=by
        cases g with
        |tmp t =>
         have hov:uI s.L t=some fv:=hov;have hs:=hok;unfold SS.ok at hs;simp only[za,zb]at hs
         have:∀(L:List (Nat×SV)),(∀p∈L,p.2.lt s.nx=true)->uI L t=some fv->fv.lt s.nx=true:=by
          intro L
          induction L with
          |nil=>intro _ h;cases h
          |cons p L ih =>
           intro hh h;have h:(bif Nat.beq p.1 t then some p.2 else uI L t)=some fv:=h;cases hb:Nat.beq p.1 t with
           |true=>rw[hb]at h;cases h;exact hh p (zac ..)
           |false=>rw[hb]at h;exact ih (fun q hq=>hh q (zaa _ hq)) h
         exact SV.bG p2 (this s.L hs.1 hov)
        |const cv =>
         have hov:(il 8 cv).bind sW=some fv:=hov;cases ha:il 8 cv with
         |none=>rw[ha]at hov;cases hov
         |some a=>rw[ha]at hov;rw[jc hov ρ1,jc hov ρ]
        |func f'=>cases hov;rfl
        |global g'=>cases hov
       unfold Dj at hfn;split at hfn
       ·cases hfn;rfl
       ·cases hfn;have e1:AV.func (.func _) (aB ρ1 _) (aB ρ1 cs)=AV.func (.func _) (aB ρ _) (aB ρ cs):=e1;injection e1
       ·cases hfn
      -- the record,told
      have hQ1:Q c T (dj G lb (.eI c.nt ⟨T.lo,T.hi,[]⟩ psA x y false)) Γ ⟨(s.den ρ).L,.lr lb c.nt ⟨T.lo,T.hi,[]⟩ psA x y::(s.den ρ).os,(s.den ρ).dQ,(s.den ρ).gs⟩ :=
       hk.q.A7 hn0 hlb _ rfl ⟨au _ _ _,hk.q.ht.none hlb⟩
      have eD:=(SS.bG hok p2).1;have hargs:lC (AV.zg lb::aB ρ cs):=hY (HY _) hcap;refine F3 hff hbody b3 (by simp only[zbi,aB,zcw];exact b1) hargs (T:=qM (AV.zg lb::aB ρ cs) 0 .e) (fun Kr=>Bv Kr _ _ _) fun n1=>?_;obtain⟨tml,tat⟩:=Bw (AV.zg lb::aB ρ cs) 0 .e;have hosl:∀o∈(s.den ρ).os,dO c.P c.Φ (dj G lb (.eI c.nt ⟨T.lo,T.hi,[]⟩ psA x y false)) Γ o:=fun o ho=>hQ1.own o (zaa _ ho);have hnd1:(cm ((s.den ρ).os)).Nodup:=hk.q.nd;have hsoL:(s.os.map (SO.den ρ1))=(s.den ρ).os:=congrArg St.os eD
      have q1:Q ⟨c.P,c.Φ,n1,fn.ntmps,cm (s.den ρ).os,((s.den ρ).gs.filter fun p=>p.2.2).map (·.1),dj G lb (.eI c.nt ⟨T.lo,T.hi,[]⟩ psA x y false),Γ,.e,z 0,[]⟩ (qM (AV.zg lb::aB ρ cs) 0 .e) (dj G lb (.eI c.nt ⟨T.lo,T.hi,[]⟩ psA x y false)) Γ ((Bt (aC s) ((0,.yl s.nx)::rR 1 (zf cs))).den ρ1):=by
       have:(Bt (aC s) ((0,.yl s.nx)::rR 1 (zf cs))).den ρ1=⟨((0,.yl s.nx)::rR 1 (zf cs)).map fun p=>(p.1,p.2.den ρ1),(s.den ρ).os,(s.den ρ).dQ,(s.den ρ).gs⟩ :=
        St.ext' rfl (by have:=congrArg St.os eD;exact this) (by have:=congrArg St.dQ eD;exact this) (by have:=congrArg St.gs eD;exact this)
       rw[this];refine UR hQ1.ht hosl hnd1 hQ1.ty (JP hk.q) tml fun k v hkv=>?_;rw[zal,x7]at hkv;rw[tat k];by_cases e:0=k
       ·subst e;rw[if_pos rfl]at hkv;rw[if_pos ⟨zad _,by simp⟩,<-Option.some.inj hkv];show AV.zg lb=AV.zg (ρ1 s.nx).nn;rw[hlq]
       ·rw[if_neg e]at hkv;obtain⟨h1,h2⟩:=yU hkv;rw[yP,ecs]at h2;have hlt:k-1<(aB ρ cs).length:=(List.getElem?_eq_some_iff.1 h2).1;rw[if_pos ⟨zbl _,by simp only[zbi];omega⟩,show k-0=(k-1)+1 by omega,zbm,h2];rfl
      have o1:Ok ⟨c.P,c.Φ,n1,fn.ntmps,cm (s.den ρ).os,((s.den ρ).gs.filter fun p=>p.2.2).map (·.1),dj G lb (.eI c.nt ⟨T.lo,T.hi,[]⟩ psA x y false),Γ,.e,z 0,[]⟩ (qM (AV.zg lb::aB ρ cs) 0 .e) (dj G lb (.eI c.nt ⟨T.lo,T.hi,[]⟩ psA x y false)) Γ ρ1 (Bt (aC s) ((0,.yl s.nx)::rR 1 (zf cs))):=⟨⟨p3.sat.fs,p3.sat.bs,p3.sat.pw,p3.sat.ats,p3.sat.cU,p3.sat.ne,p3.sat.fz,p3.sat.sb⟩,q1⟩;have hRk0:rk=⟨rk.aU,rk.str,rk.ms,none⟩:=by cases rk;simp only at hy0;subst hy0;rfl
      have hR1:jg c rk ρ1:=hR.bG hm p2
      have hlbS:lb∉cm (s.den ρ).os:=fun hb=>by
       obtain⟨o,m1,m2⟩:=eF.1 hb;have:=(hk.q.own o m1).told m2;rw[hlb]at this;cases this
      have HW:rk.ms.lt (s.nx+1)=true:=by
       unfold Rk.ur at hm;rw[za]at hm;exact LE.EF hm.1 (zan _)
      have hRn:jg ⟨c.P,c.Φ,n1,fn.ntmps,cm (s.den ρ).os,((s.den ρ).gs.filter fun p=>p.2.2).map (·.1),dj G lb (.eI c.nt ⟨T.lo,T.hi,[]⟩ psA x y false),Γ,.e,z 0,[]⟩ ⟨rk.aU,rk.str,rk.ms,some (s.nx,s.nx+1,yS cf ⟨rk.aU,rk.str,rk.ms,none⟩ gu psA.toList x y l s.L)⟩ ρ1:=by
       refine⟨hR1.sp,fun q n hh e=>?_⟩;cases e;refine⟨ρ1,cM.refl _ _,?_⟩;rw[<-hRk0];refine GL (tm:=⟨T.lo,T.hi,[]⟩) hP hΦ hK hmix (fun cx e1 e2=>jg.any hR1 e1 e2 hy0) (Rk.EF hm (zan _)) b4 b5 (fun p hp=>av (List.all_eq_true.1 b6 p hp)) ?_ ?_ ?_ rfl (zdc _) fun ρ2 ha2 k v hkv=>?_
       ·show dj G lb _ (ρ1 s.nx).nn=_;rw[hlq,au,hnt]
       ·show Γ.m (ρ1 s.nx).nn=none;rw[hlq];exact hk.q.ht.none hlb
       ·show (ρ1 s.nx).nn∉_;rw[hlq];exact hlbS
       ·have a3:cM s.nx ρ ρ2:=p2.trans ha2 (zan _);have e2:(s.L.map fun p=>(p.1,p.2.den ρ2))=s.L.map fun p=>(p.1,p.2.den ρ):=congrArg St.L (SS.bG hok a3).1;rw[e2]at hkv;exact hk.q.at_ k v hkv
      refine dD (lA (c:=⟨c.P,c.Φ,n1,fn.ntmps,cm (s.den ρ).os,((s.den ρ).gs.filter fun p=>p.2.2).map (·.1),dj G lb (.eI c.nt ⟨T.lo,T.hi,[]⟩ psA x y false),Γ,.e,z 0,[]⟩) (cf:=⟨cf.P,cf.Φ,fn.ntmps,cf.keys⟩) (s:=Bt (aC s) ((0,.yl s.nx)::rR 1 (zf cs))) hP hΦ rfl hK hmix hRn ?_ p1 o1) fun e T6 hp6 nx6 G6 hh=>?_
      ·show (rk.ms.lt (s.nx+1)&&Nat.ble (s.nx+1) (s.nx+1))=true;rw[HW,Nat.ble_self_eq_true];rfl
      ·obtain⟨f1,f2,Γ6,ρ6,s6,k1,k2,k3,k4⟩:=hh
       have k1':e≠.ext 0/\(∀j,e≠.ext j)/\(K' .eJ (Bt s6 s.L)).Ok:=by
        cases e with
        |eJ=>exact⟨by simp,by simp,k1⟩
        |ret=>exact⟨by simp,by simp,k1⟩
        |ext j=>cases k1
       obtain⟨_,k1a,k1⟩:=k1';have k2:cM s.nx ρ ρ6:=p2.trans k2 (zan _);have k3:s.nx<=s6.nx:=by have:s.nx+1<=s6.nx:=k3;omega
       have hout:=k4.out
       -- the frame of the caller
       have g6:G6 lb=some (.eI c.nt ⟨T.lo,T.hi,[]⟩ psA x y false):=by
        obtain⟨g,_⟩:=k4.q.rl.g lb (by show (dj G lb _ lb).isSome=true;rw[au];rfl) hlbS (hk.q.ht.none hlb);rw[g];exact au _ _ _
       have hres:fn.results.toList=[]:=by
        have:fn.results=#[]:=Array.isEmpty_iff.1 b2;rw[this]
       refine⟨k1a,k4.q.ml,k4.q.grow,.dC [],qz,⟨g6,fun hgr6=>?_⟩,fun k=>by rw[hres];rfl⟩
       have hQ6:=hQ1.call (osA:=[.lr lb c.nt ⟨T.lo,T.hi,[]⟩ psA x y]) (osB:=(s.den ρ).os) (os':=s6.os.map (SO.den ρ6)) (tys':=s6.ty.map (c6.den ρ6)) (gsA:=[]) (gs':=s6.gs.map fun p=>(ig ρ6 p.1,(ρ6 p.2.1).gg,p.2.2)) (List.Perm.refl _) hout.rl hgr6 hout.ht
        (fun o h=>by obtain⟨o0,m1,rfl⟩:=List.mem_map.1 h;exact hout.own o0 m1) hout.nd (fun o h b hb=>by obtain⟨o0,m1,rfl⟩:=List.mem_map.1 h;exact hout.new o0 m1 b hb) (fun f h=>by obtain⟨f0,m1,rfl⟩:=List.mem_map.1 h;exact hout.ty f0 m1)
        (fun g hg=>by
         obtain⟨p,h1,rfl⟩:=List.mem_map.1 hg;obtain⟨h2,h3⟩:=List.mem_filter.1 h1;exact ((hk.q.gs p h2).2.2 h3).1) (fun p hp=>by cases hp) (fun p hp=>by
         obtain⟨q0,m1,rfl⟩:=List.mem_map.1 hp;obtain⟨a1,a2,a3⟩:=hout.gs q0 m1;refine⟨a1,a2,fun hw=>?_⟩;obtain⟨a4,a5⟩:=a3 hw;refine⟨?_,a5⟩;rcases a4 with a4|a4
         ·obtain⟨p,h1,h2⟩:=List.mem_map.1 a4;obtain⟨h3,h4⟩:=List.mem_filter.1 h1;have:=((hk.q.gs p h3).2.2 h4).1;rw[h2]at this;exact this
         ·exact .inr (zam hk.q.rl.le.ng a4)) (fun o h g hg=>by rw[List.mem_singleton.1 h]at hg;cases hg) (fun o h hp=>by rw[List.mem_singleton.1 h]at hp;cases hp)
       have m6:Γ6.m lb=none:=(k4.q.rl.g lb (by show (dj G lb _ lb).isSome=true;rw[au];rfl) hlbS (hk.q.ht.none hlb)).2
       -- the record is let go
       have hQ7:=hQ6.call (osA:=s6.os.map (SO.den ρ6)) (osB:=[.lr lb c.nt ⟨T.lo,T.hi,[]⟩ psA x y]) (os':=[]) (tys':=[]) (gsA:=s6.gs.map fun p=>(ig ρ6 p.1,(ρ6 p.2.1).gg,p.2.2)) (gs':=[]) (Sg:=[]) List.perm_append_comm (tz (g':=.HX) g6 m6 (zaz _)) (dG (.inl (by rw[g6];rfl))) (yT hout.ht g6 m6)
        (fun o h=>by cases h) List.nodup_nil (fun o h=>by cases h) (fun f h=>by cases h) (fun g h=>by cases h) (fun p hp=>⟨by simpa using hp,rfl⟩) (fun p h=>by cases h) (fun o _ g _=>rfl) (fun o _ _ b cc g hb=>aV fun e=>by subst e;rw[m6]at hb;cases hb)
       refine⟨_,_,_,(fun h=>by cases h),.inr ⟨rfl,rfl,rfl⟩,rfl,rfl,Γ6,ρ6,Bt s6 s.L,k1,k2,k3,⟨k4.sat.fs,k4.sat.bs,k4.sat.pw,k4.sat.ats,k4.sat.cU,k4.sat.ne,k4.sat.fz,k4.sat.sb⟩,?_⟩;have hT:∀t,(⟨T.lo,T.hi,z 0::T.ml⟩:Tm).at t=T.at t:=fun t=>Ak T _ t;refine⟨by show z 0::T.ml=[z 0];rw[hk.q.ml,hcx.2.2],fun k v hkv=>?_,hQ7.uB,hQ7.rl,hQ7.grow,fun o ho=>hQ7.own o (zbo _ ho),fun o ho=>hQ7.new o (zbo _ ho),by have:=hQ7.nd;simpa [Bt,SS.den] using this,hQ7.ht,fun f hf=>hQ7.ty f (zbt _ (zbo _ hf)),fun p hp=>hQ7.gs p hp⟩;rw[hT];have hkv:lk (s.L.map fun p=>(p.1,p.2.den ρ6)) k=some v:=hkv;have e2:(s.L.map fun p=>(p.1,p.2.den ρ6))=s.L.map fun p=>(p.1,p.2.den ρ):=congrArg St.L (SS.bG hok k2).1;rw[e2]at hkv;exact hk.q.at_ k v hkv
    ·cases h
   ·cases h
 ·cases h
theorem KX.up {K:Ex->SS->R}{e:Ex}{hp hp1:Tr AO}{nx nx1:Pz}{ml1:List Pz}{b1 b2 b:Bool}(ha:cM s.nx ρ ρ')(hn:s.nx<=s'.nx)(q1:b1=true->hp1=c.hp/\nx1=c.nx/\ml1=c.ml)(q2:(hp1=c.hp/\nx1=c.nx/\ml1=c.ml)∨(hp1=(Tr.e:Tr AO).set (z 0) .fa/\nx1=(z 0).succ/\ml1=[z 0]))(hb:b=true->b1=true/\b2=true)
  (h:KX ⟨c.P,c.Φ,c.n0,c.nt,c.S,c.Sg,c.G0,c.Γ0,hp1,nx1,ml1⟩ b2 s' ρ' K e T hp nx G):KX c b s ρ K e T hp nx G:=by
 obtain⟨hp2,nx2,ml2,r1,r2,r3⟩:=h;refine⟨hp2,nx2,ml2,fun hbt=>?_,?_,r3.up ha hn⟩
 ·obtain⟨h1,h2⟩:=hb hbt;obtain⟨a1,a2,a3⟩:=q1 h1;obtain⟨d1,d2,d3⟩:=r1 h2;exact⟨d1.trans a1,d2.trans a2,d3.trans a3⟩
 ·rcases r2 with ⟨d1,d2,d3⟩|r2
  ·rcases q2 with ⟨a1,a2,a3⟩|⟨a1,a2,a3⟩
   ·exact .inl ⟨d1.trans a1,d2.trans a2,d3.trans a3⟩
   ·exact .inr ⟨d1.trans a1,d2.trans a2,d3.trans a3⟩
  ·exact .inr r2
theorem P8 (hP:cf.P=c.P)(hΦ:cf.Φ=c.Φ)(hnt:cf.nt=c.nt)(hK:eX cf)(hmix:c.P.follows .mixedOrders=true)(hy0:rk.yh=none):∀{co:Code}{rf:Bool}{l:Nat}{hp:Tr AO}{nx:Pz}{ml:List Pz}{T:Tm}{G:GH}{Γ:dy}{ρ:aZ}{s:SS}{K:Ex->SS->R},jg c rk ρ->rk.ur s.nx=true->(rf=true->hp=.e/\nx=z 0/\ml=[])->(LR cf rk gu gi rf co l s K).Ok->Ok ⟨c.P,c.Φ,c.n0,c.nt,c.S,c.Sg,c.G0,c.Γ0,hp,nx,ml⟩ T G Γ ρ s->dx c.P c.n0 c.nt co T hp nx G (KX ⟨c.P,c.Φ,c.n0,c.nt,c.S,c.Sg,c.G0,c.Γ0,hp,nx,ml⟩ (!rf||cQ co) s ρ K):=by
 have oth:∀{co:Code} {b:Bool} {l:Nat} {hp:Tr AO} {nx:Pz} {ml:List Pz} {T:Tm} {G:GH} {Γ:dy} {ρ:aZ} {s:SS} {K:Ex->SS->R},jg c rk ρ->rk.ur s.nx=true->(ex cf rk gu co l s K).Ok->Ok ⟨c.P,c.Φ,c.n0,c.nt,c.S,c.Sg,c.G0,c.Γ0,hp,nx,ml⟩ T G Γ ρ s->dx c.P c.n0 c.nt co T hp nx G (KX ⟨c.P,c.Φ,c.n0,c.nt,c.S,c.Sg,c.G0,c.Γ0,hp,nx,ml⟩ b s ρ K) :=
  fun {co b l hp nx ml T G Γ ρ s K} hR hm h hk=>dD (lA (c:=⟨c.P,c.Φ,c.n0,c.nt,c.S,c.Sg,c.G0,c.Γ0,hp,nx,ml⟩) hP hΦ hnt hK hmix (jg.any hR rfl rfl hy0) hm h hk) fun e T hp nx G hh=>KX.of hh
 intro co
 induction co with
 |seq x y ihx ihy =>
  intro rf l hp nx ml T G Γ ρ s K hR hm hc h hk;have h:(LR cf rk gu gi rf x l s (JN K fun s=>LR cf rk gu gi (rf&&cQ x) y l s K)).Ok:=h;refine wz (dD (ihx hR hm hc h hk) fun e T' hp' nx' G' hh=>?_);obtain⟨hp1,nx1,ml1,q1,q2,e1,e2,Γ',ρ',s',k1,k2,k3,k4⟩:=hh;have e1:hp'=hp1:=e1;have e2:nx'=nx1:=e2;subst e1 e2;cases e with
  |eJ =>
   refine dD (ihy (hR.bG hm k2) (Rk.EF hm k3) (fun hrf=>?_) k1 k4) fun e T2 hp2 nx2 G2 hh2=>KX.up (c:=⟨c.P,c.Φ,c.n0,c.nt,c.S,c.Sg,c.G0,c.Γ0,hp,nx,ml⟩) k2 k3 q1 q2 (fun hb=>?_) hh2
   ·rw[za]at hrf;obtain⟨a1,a2,a3⟩:=q1 (by rw[hrf.2,Bool.or_true]);obtain⟨d1,d2,d3⟩:=hc hrf.1;exact⟨a1.trans d1,a2.trans d2,a3.trans d3⟩
   ·have hb:(!rf||(cQ x&&cQ y))=true:=hb;cases rf with
    |false=>exact⟨rfl,rfl⟩
    |true =>
     have hb:(cQ x&&cQ y)=true:=hb;rw[za]at hb;exact⟨by rw[hb.1];rfl,by rw[hb.2,Bool.or_true]⟩
  |ext j =>
   exact KX.up (c:=⟨c.P,c.Φ,c.n0,c.nt,c.S,c.Sg,c.G0,c.Γ0,hp,nx,ml⟩) (b2:=true) k2 k3 q1 q2 (fun hb=>⟨by
    have hb:(!rf||(cQ x&&cQ y))=true:=hb;cases rf with
    |false=>rfl
    |true=>have hb:(cQ x&&cQ y)=true:=hb;rw[za]at hb;rw[hb.1];rfl,rfl⟩) (KX.of ⟨rfl,rfl,Γ',ρ',s',k1,cM.refl _ _,zad _,k4⟩)
  |ret =>
   exact KX.up (c:=⟨c.P,c.Φ,c.n0,c.nt,c.S,c.Sg,c.G0,c.Γ0,hp,nx,ml⟩) (b2:=true) k2 k3 q1 q2 (fun hb=>⟨by
    have hb:(!rf||(cQ x&&cQ y))=true:=hb;cases rf with
    |false=>rfl
    |true=>have hb:(cQ x&&cQ y)=true:=hb;rw[za]at hb;rw[hb.1];rfl,rfl⟩) (KX.of ⟨rfl,rfl,Γ',ρ',s',k1,cM.refl _ _,zad _,k4⟩)
 |block id x ih =>
  intro rf l hp nx ml T G Γ ρ s K hR hm hc h hk;have h:(bif cQ x then ex cf rk gu (.block id x) l s K else LR cf rk gu gi rf x id s (QJ id K (K .eJ))).Ok:=h;cases hx:cQ x with
  |true=>rw[hx]at h;exact oth (l:=l) hR hm h hk
  |false =>
   rw[hx]at h;refine nB (dD (ih hR hm hc h hk) fun e T' hp' nx' G' hh=>?_);obtain⟨hp1,nx1,ml1,q1,q2,e1,e2,Γ',ρ',s',k1,k2,k3,k4⟩:=hh;cases e with
   |eJ=>exact⟨hp1,nx1,ml1,q1,q2,e1,e2,Γ',ρ',s',k1,k2,k3,k4⟩
   |ret=>exact⟨hp1,nx1,ml1,q1,q2,e1,e2,Γ',ρ',s',k1,k2,k3,k4⟩
   |ext j =>
    show KX _ _ s ρ K (if j=id then .eJ else .ext j) T' hp' nx' G';have k1:((bif Nat.beq j id then K .eJ else K (.ext j)) s').Ok:=k1;by_cases hj:j=id
    ·subst hj;rw[if_pos rfl];rw[zcf]at k1;exact⟨hp1,nx1,ml1,q1,q2,e1,e2,Γ',ρ',s',k1,k2,k3,k4⟩
    ·rw[if_neg hj]
     have hb:Nat.beq j id=false:=by
      cases hb:Nat.beq j id with
      |false=>rfl
      |true=>exact absurd (ai hb) hj
     rw[hb]at k1;exact⟨hp1,nx1,ml1,q1,q2,e1,e2,Γ',ρ',s',k1,k2,k3,k4⟩
 |rangeFunc g ps x y _ _ =>
  intro rf l hp nx ml T G Γ ρ s K hR hm hc h hk;have h:(bif rf then TM cf rk gu gi g ps.toList x y l s (K .eJ)else .bad 511 s).Ok:=h;cases rf with
  |false=>cases h
  |true=>exact P7 (c:=⟨c.P,c.Φ,c.n0,c.nt,c.S,c.Sg,c.G0,c.Γ0,hp,nx,ml⟩) hP hΦ hnt hK hmix (jg.any hR rfl rfl hy0) hm hy0 (hc rfl) h hk
 |_ =>
  intro rf l hp nx ml T G Γ ρ s K hR hm hc h hk;exact oth hR hm h hk
end
end Go.Rd
namespace Go.Rd
open Go.aI Go.RowKit Go.Rt
def Sp.start (sp:Sp):SS:=⟨sp.pre.nx,rR 0 sp.ar,sp.pre.os,sp.pre.ty,sp.pre.gs,sp.pre.fs,sp.pre.bs,sp.pre.pw,sp.pre.ats,sp.pre.cU,sp.pre.ne,sp.pre.fz,sp.pre.sb⟩
def P9 (P:Program)(s:SS):ResultVar->Option SV
 |.tmp t=>uI s.L t
 |.cell a t=>(match uI s.L a with
  |some (.v false [.cu b o])=>(match ic s.os b with
   |some (_,cs)=>bif dZ P t then (bif Nat.ble (o+ae P t) cs.length then some (.v true ((cs.drop o).take (ae P t)))else none)
    else bif cD P t then (cs[o]?).map sc else none
   |none=>none)
  |_=>none)
def GM (P:Program)(s:SS):List ResultVar->Option (List SV)
 | []=>some []
 |r::l=>(match P9 P s r,GM P s l with|some v,some vs=>some (v::vs)|_,_=>none)
def QK:List SV->Option (List (Bool×List SC))
 | []=>some []
 |.v ag cs::l=>(QK l).map ((ag,cs)::·)
 |_::_=>none
def LW:List SV->Option SV
 | [v]=>some v
 |vs=>(QK vs).map .dC
def LX (vs:List AV):AV:=match vs with| [v]=>v|vs=>.dC vs
def oneOf (Φ:Forms)(base:Nat)(r:SV)(s:SS):List (SV×SS)->Bool
 | []=>false
 |p::l =>
  let σ:Su:=⟨base,uY base p.2 s (mV base [] p.1 r)⟩
  (sub Φ p.2 s σ&&(match sV σ p.1 with|some r'=>r'.same r|none=>false))||oneOf Φ base r s l
def LY (cf:Cf)(sp:Sp)(r:SV)(s:SS):R:=match r with
 |.v false [.bool be]=>split s be (fun s=>bif oneOf cf.Φ sp.pre.nx (sc (.bool (.k true))) s sp.fR then .ok else .bad 600 s) (fun s=>bif oneOf cf.Φ sp.pre.nx (sc (.bool (.k false))) s sp.fR then .ok else .bad 600 s)
 |_=>.bad 600 s
def LZ (cf:Cf)(sp:Sp)(rs:List ResultVar)(s:SS):R:=match (GM cf.P s rs).bind LW with
 |some r=>bif oneOf cf.Φ sp.pre.nx r s sp.fR then .ok else LY cf sp r s
 |none=>.bad 601 s
def fin (cf:Cf)(sp:Sp)(rs:List ResultVar):Ex->SS->R
 |.eJ=>LZ cf sp rs
 |.ret=>LZ cf sp rs
 |.ext _=>.bad 602
section
variable {c:Cx}{T:Tm}{G G':GH}{Γ Γ':dy}{ρ ρ':aZ}{s0 s s':SS}{cf:Cf}{rk:Rk}{gu:Gu}{co:Code}
theorem L0 {r:ResultVar}{v:SV}(hP:cf.P=c.P)(h:P9 cf.P s r=some v)(hk:Ok c T G Γ ρ s){B:Nat->Prop}{w0:World}{ι:En}{a:Act}{w:World}(hs:c8 c.n0 B w0 c.nt T c.hp c.nx G ι a w):(iX a.tmps r).run c.P w=.ok (ak ι (v.den ρ)) w:=by
 rw[hP]at h;cases r with
 |tmp t =>
  have:=(hs.1.2 ι (al.refl _ _)).1.val t;rw[hk.q.at_ _ _ (gD h)]at this;have this:a.tmps.getD t undef=ak ι (v.den ρ):=this;simp[iX,this]
 |cell ad t =>
  unfold P9 at h;simp only at h;split at h
  ·rename_i b o hx;have e:=(hs.1.2 ι (al.refl _ _)).1.val ad;rw[hk.q.at_ _ _ (gD hx)]at e;have e:a.tmps.getD ad undef=ak ι (.cu (ρ b).nn o):=e;split at h
   ·rename_i el cs hl;have hG:=hk.loc hl;have kM:(aB ρ cs).length=cs.length:=by simp[aB]
    cases ha:dZ c.P t with
    |true =>
     rw[ha]at h;simp only[cond_true]at h;cases hb:Nat.ble (o+ae c.P t) cs.length with
     |false=>rw[hb]at h;cases h
     |true =>
      rw[hb]at h;cases h;have hle:=aK hb;obtain⟨d,hd⟩:=p9 ha;show _=Result.ok (ak ι (.agg (aB ρ _))) w;rw[rF];have hlen:(((aB ρ cs).drop o).take (ae c.P t)).length=ae c.P t:=by rw[zaf,zas,kM];omega
      simp only[iX,e,ak,Go.asAddr,Sem.run_bind,Sem.run_pure,Result.andThen_ok,loadVar,iK hd,ha,if_true,gY hd];rw[aI.run_loadCells (l:=ao ι (((aB ρ cs).drop o).take (ae c.P t))) (by rw[aq,hlen]) fun j' hj'=>?_]
      ·simp
      ·rw[aq]at hj';rw[iC hs hG _ (by rw[kM];omega),bu,zbd (by omega),zbb]
    |false =>
     rw[ha]at h;simp only[cond_false]at h;cases hkn:cD c.P t with
     |false=>rw[hkn]at h;cases h
     |true =>
      rw[hkn]at h;simp only[cond_true]at h;obtain⟨x,hx,rfl⟩:=map_some h;obtain⟨d,hd⟩:=kV hkn;have hlt:o<cs.length:=(List.getElem?_eq_some_iff.1 hx).1;show _=Result.ok (ak ι (x.den ρ)) w;simp only[iX,e,ak,Go.asAddr,Sem.run_bind,Sem.run_pure,Result.andThen_ok,loadVar,iK hd,ha,zag,if_false];rw[gy (v:=ak ι (x.den ρ)) (by rw[iC hs hG _ (by rw[kM];exact hlt)];simp[aB,hx])]
   ·cases h
  ·cases h
theorem EG (hP:cf.P=c.P)(hk:Ok c T G Γ ρ s){B:Nat->Prop}{w0:World}{ι:En}{a:Act}{w:World}(hs:c8 c.n0 B w0 c.nt T c.hp c.nx G ι a w):∀{rs:List ResultVar}{vs:List SV},GM cf.P s rs=some vs->(rs.mapM (iX a.tmps)).run c.P w=.ok (ao ι (vs.map (SV.den ρ))) w
 | [],vs,h=>by cases h;simp[ao]
 |r::l,vs,h=>by
  unfold GM at h;split at h
  ·rename_i v vs' h1 h2;cases h;rw[zea,Sem.run_bind,L0 hP h1 hk hs,Result.andThen_ok,Sem.run_bind,EG hP hk hs h2,Result.andThen_ok];simp[ao]
  ·cases h
theorem JQ:∀{vs:List SV}{l:List (Bool×List SC)},QK vs=some l->l.map (dS ρ)=vs.map (SV.den ρ)
 | [],l,h=>by cases h;rfl
 |.v ag cs::vs,l,h=>by
  obtain⟨r,h1,rfl⟩:=map_some (show (QK vs).map ((ag,cs)::·)=some l from h);rw[zal,zal,JQ h1];rfl
 |.dC _::_,_,h=>by cases h
 |.undef::_,_,h=>by cases h
 |.ve _ _ _::_,_,h=>by cases h
 |.slt _ _ _::_,_,h=>by cases h
 |.yl _::_,_,h=>by cases h
theorem L3 {vs:List SV}{r:SV}(h:LW vs=some r):r.den ρ=LX (vs.map (SV.den ρ)):=by
 match vs,h with
 | [],h=>obtain⟨l,h1,rfl⟩:=map_some (show (QK []).map .dC=some r from h);cases h1;rfl
 | [v],h=>cases h;rfl
 |v::v2::vs,h =>
  obtain⟨l,h1,rfl⟩:=map_some (show (QK (v::v2::vs)).map .dC=some r from h);show AV.dC (l.map (dS ρ))=_;rw[JQ h1];rfl
theorem lT (hP:cf.P=c.P)(hk:Ok c T G Γ ρ s){B:Nat->Prop}{w0:World}{ι:En}{a:Act}{w:World}(hs:c8 c.n0 B w0 c.nt T c.hp c.nx G ι a w){fn:Func}{vs:List SV}{r:SV}(h:GM cf.P s fn.results.toList=some vs)(hr:LW vs=some r):(results fn a.tmps).run c.P w=.ok (ak ι (r.den ρ)) w:=by
 have h1:=EG hP hk hs h;rw[L3 (ρ:=ρ) hr];show (fn.results.mapM (iX a.tmps) >>= fun vs=>pure (if h:vs.size=1 then vs[0]else .tuple vs)).run c.P w=_;rw[Sem.run_bind,Array.mapM_eq_mapM_toList,Sem.run_map,h1];generalize vs.map (SV.den ρ)=us
 match us with
 | []=>simp[ao,LX,ak]
 | [v]=>simp[ao,LX]
 |v::v2::vs=>simp[ao,LX,ak]
theorem u6 {base:Nat}{r:SV}(hk:Ok c T G Γ ρ s):∀{l:List (SV×SS)},oneOf c.Φ base r s l=true->∃p∈l,∃ρ',cM base ρ ρ'/\Ok c T G Γ ρ' p.2/\p.1.den ρ'=r.den ρ
 | [],h=>by cases h
 |p::l,h=>by
  unfold oneOf at h;simp only[zar,za]at h;rcases h with ⟨h1,h2⟩|h
  ·have hσ:=(ly (by unfold sub at h1;rw[za]at h1;exact h1.1) hk.sat).1;split at h2
   ·rename_i r' hr';exact⟨p,zac ..,_,Su.bG ⟨base,_⟩ ρ,yN h1 hk,by rw[<-wW hσ hr',SV.aN h2 ρ]⟩
   ·cases h2
  ·obtain⟨q,h1,h2⟩:=u6 hk h;exact⟨q,zaa _ h1,h2⟩
theorem L4 {sp:Sp}{r:SV}(hΦ:cf.Φ=c.Φ)(hk:Ok c T G Γ ρ s)(h:(bif oneOf cf.Φ sp.pre.nx r s sp.fR then R.ok else LY cf sp r s).Ok):∃p∈sp.fR,∃ρ',cM sp.pre.nx ρ ρ'/\Ok c T G Γ ρ' p.2/\p.1.den ρ'=r.den ρ:=by
 cases hone:oneOf cf.Φ sp.pre.nx r s sp.fR with
 |true=>rw[hΦ]at hone;exact u6 hk hone
 |false =>
  rw[hone]at h;have h:(LY cf sp r s).Ok:=h;unfold LY at h;split at h
  ·rename_i be _;obtain⟨s2,n1,_,o1,h1⟩:=nJ h hk
   have go:∀b:Bool,be.ev ρ=b->(bif oneOf cf.Φ sp.pre.nx (sc (.bool (.k b))) s2 sp.fR then R.ok else .bad 600 s2).Ok->∃p∈sp.fR,∃ρ',cM sp.pre.nx ρ ρ'/\Ok c T G Γ ρ' p.2/\p.1.den ρ'=(SV.v false [.bool be]).den ρ:=fun b hb h=>by
    cases hx:oneOf cf.Φ sp.pre.nx (sc (.bool (.k b))) s2 sp.fR with
    |false=>rw[hx]at h;cases h
    |true =>
     rw[hΦ]at hx;obtain⟨p,m1,ρ',m2,m3,m4⟩:=u6 o1 hx;exact⟨p,m1,ρ',m2,m3,by rw[m4];show AV.bool b=AV.bool (be.ev ρ);rw[hb]⟩
   rcases h1 with ⟨e1,h1⟩|⟨e1,h1⟩
   ·exact go true e1 h1
   ·exact go false e1 h1
  ·cases h
end
theorem holds_of {P:Program}{Φ:Forms}{cf:Cf}{rk:Rk}{gu:Gu}{gi:Nat->Gu}{sp:Sp}{m:Nat}{fn:Func}{co:Code}(hP:cf.P=P)(hΦ:cf.Φ=Φ)(hnt:cf.nt=fn.ntmps)(hK:eX cf)(hmix:P.follows .mixedOrders=true)(hf:P.funcs[sp.f]?=some fn)(hb:fn.body=some co)(hn:(fn.name == "runtime.NumGoroutine")=false)(hl:Nat.ble sp.ar.length fn.ntmps=true)
  (h1:rk.str=sp.str) (h2:rk.ms=sp.ms) (h3:sp.ms.lt sp.pre.nx=true) (h4:rk.yh=none) (hex:(LR cf rk gu gi true co 0 sp.start (fin cf sp fn.results.toList)).Ok) (hI:∀sp'∈rk.aU,∀m':Nat,(sp'.str<sp.str∨(sp'.str=sp.str/\m'<m))->kx P Φ sp' m') (hm0:∀ρ:aZ,Sat ρ sp.pre->0<=sp.ms.ev ρ):kx P Φ sp m:=by
 intro ρ G Γ hin hm B w0 w ι cargs hc hg hca;have hargs:lC (sp.ar.map (SV.den ρ)):=Di sp.ar ρ;have hl:=aK hl;have hlen:(sp.ar.map (SV.den ρ)).length=sp.ar.length:=by simp
 obtain⟨t',_,hml,ht⟩:=td (sp.ar.map (SV.den ρ)) 0 Tm.e (fun _=>.ok) (by
  have:∀(as:List AV) (i:Nat) (t:Tm),iP as i t (fun _=>.ok)=.ok:=by
   intro as
   induction as with
   |nil=>intro i t;rfl
   |cons a as ih =>
    intro i t;show (tC i).run t a (fun t=>bj (Nat.succ i) fun i=>iP as i t fun _=>.ok)=.ok;rw[lM,aG];exact ih _ _
  exact this _ _ _)
 refine .inr (.inl ⟨sp.f,cargs,w,by simp only[callFunc,Sem.run_bind,run_program,Result.andThen_ok,hf,hn,hb,Option.isNone_some,zag,if_false,Sem.run_pure],?_⟩);refine callsIn_wide.1 (callsIn_of_wp_marks (F:=fw none) (n:=0) hf hb trivial ?_);have no:∀{id:Pz} {o:AO} {p:Prop},(Tr.e:Tr AO).get id=some o->p:=fun h=>by rw[Tr.fD]at h;cases h
 have hsat:c8 w.heap.size (fun b=>B b∨(b<w.heap.size/\G b=none)) w fn.ntmps t' .e (z 0) G ι { tmps:=cargs++Array.replicate (fn.ntmps-cargs.size) undef,defers:=[] } w:=by
  refine⟨⟨qx _,fun ι' hι=>⟨?_,?_⟩⟩,fun b g hbg=>(hg b g hbg).bE rfl fun hB=>?_,fun id o h=>no h,zad _,fun b hlt hnone=>.inr ⟨hlt,hnone⟩⟩
  ·rw[hca,lZ hargs ι ι'];exact tZ hml (by rw[hlen];exact hl) ht
  ·refine⟨Kept.refl _ _,fun k hk=>?_,fun id o h=>no h,fun id o h=>no h,fun id id' o o' _ h=>no h,fun id id' f ep es n el c f' ep' tp' es' n' el' c' _ h=>no h⟩;rcases hk with hk|hk
   ·exact hc.room k hk
   ·exact hk.1
  ·rcases hB with hB|hB
   ·exact hB
   ·rw[hbg]at hB;cases hB.2
 have hok:Ok ⟨P,Φ,w.heap.size,fn.ntmps,cm (sp.pre.os.map (SO.den ρ)),s7 ρ sp.pre.gs,G,Γ,.e,z 0,[]⟩ t' G Γ ρ sp.start:=by
  refine⟨⟨hin.sat.fs,hin.sat.bs,hin.sat.pw,hin.sat.ats,hin.sat.cU,hin.sat.ne,hin.sat.fz,hin.sat.sb⟩,?_⟩;refine⟨hml,fun k v hk=>?_,fun b x hb=>(hin.ht.b b x hb).told,Rl.refl _ _ _ _ _,ju.refl _ _,fun o ho=>?_,fun o ho b hb=>.inl (eF.2 ⟨o,ho,hb⟩),hin.nd,hin.ht,fun f hf=>?_,fun p hp=>?_⟩
  ·obtain⟨_,this⟩:=yU hk;rw[zel]at this;have hlt:k<(sp.ar.map (SV.den ρ)).length:=(List.getElem?_eq_some_iff.1 this).1;rw[ht k,if_pos ⟨zbl _,by omega⟩,zel,this];rfl
  ·obtain⟨o0,m1,rfl⟩:=List.mem_map.1 ho;exact hin.own o0 m1
  ·obtain⟨f0,m1,rfl⟩:=List.mem_map.1 hf;exact hin.ty f0 m1
  ·obtain⟨p0,m1,rfl⟩:=List.mem_map.1 hp;obtain⟨a1,a2,a3⟩:=hin.gs p0 m1;exact⟨a1,a2,fun hw=>⟨.inl (List.mem_map.2 ⟨p0,List.mem_filter.2 ⟨m1,hw⟩,rfl⟩),a3 hw⟩⟩
 have hR:jg ⟨P,Φ,w.heap.size,fn.ntmps,cm (sp.pre.os.map (SO.den ρ)),s7 ρ sp.pre.gs,G,Γ,.e,z 0,[]⟩ rk ρ:=⟨fun sp' hsp m' hc=>by
  refine hI sp' hsp m' ?_;rw[h1,h2]at hc;rcases hc with hc|⟨hc,hc2⟩
  ·exact .inl hc
  ·exact .inr ⟨hc,by omega⟩,fun q n hh e=>by rw[h4]at e;cases e⟩
 have hlt:rk.ur sp.start.nx=true:=by
  unfold Rk.ur;rw[h2,h4,Bool.and_true];exact h3
 have hgo:=P8 (c:=⟨P,Φ,w.heap.size,fn.ntmps,cm (sp.pre.os.map (SO.den ρ)),s7 ρ sp.pre.gs,G,Γ,.e,z 0,[]⟩) (gu:=gu) hP hΦ hnt hK hmix h4 hR hlt (fun _=>⟨rfl,rfl,rfl⟩) hex hok;refine hgo none (.inl rfl) _ w w ι _ hsat _ (fun e tm' hp' nx' G' ι2 a' w' hk hs=>?_);obtain⟨hp1,nx1,ml1,_,hml1,e1,e2,Γ',ρ',s',k1,k2,k3,k4⟩:=hk;have e1:hp'=hp1:=e1;have e2:nx'=nx1:=e2;subst e1 e2
 have finish:(LZ cf sp fn.results.toList s').Ok->LeavesInM (fw none) 0 P fn a'.tmps (fun e w''=>∃cv,e=.returned cv/\∃v G',(∃Γ' ρ',∃p∈sp.fR,v=p.1.den ρ'/\cM sp.pre.nx ρ ρ'/\Out P Φ (cm (sp.pre.os.map (SO.den ρ))) (s7 ρ sp.pre.gs) G Γ G' Γ' ρ' p.2)/\nf v/\cv=ak ι v/\Core B w0 ι .e w''/\AD B G' w''/\(∀b,(G' b).isSome=true->(G b).isSome=true∨w.heap.size<=b)/\∀b,(G b).isSome=true->(G' b).isSome=true) a'.defers .returning w':=fun hfin=>by
  unfold LZ at hfin;split at hfin
  ·rename_i r hr;cases hrl:GM cf.P s' fn.results.toList with
   |none=>rw[hrl]at hr;cases hr
   |some vs =>
    rw[hrl]at hr;have hr:LW vs=some r:=hr;have hall:=L4 (sp:=sp) (r:=r) hΦ k4 hfin;obtain⟨p,m1,ρ2,m2,m3,m4⟩:=hall;have hnf:=wK r ρ'
    -- behind the marks
    have last:∀(hp2:Tr AO) (w2:World),c8 w.heap.size (fun b=>B b∨(b<w.heap.size/\G b=none)) w fn.ntmps ⟨tm'.lo,tm'.hi,[]⟩ hp2 nx' G' ι2 { a' with defers:=[] } w2 ->
      ∃cv,(results fn a'.tmps).run P w2=.ok cv w2/\∃cv',Ending.returned cv=.returned cv'/\∃v G',(∃Γ' ρ',∃p∈sp.fR,v=p.1.den ρ'/\cM sp.pre.nx ρ ρ'/\Out P Φ (cm (sp.pre.os.map (SO.den ρ))) (s7 ρ sp.pre.gs) G Γ G' Γ' ρ' p.2)/\nf v/\cv'=ak ι v/\Core B w0 ι .e w2/\AD B G' w2/\(∀b,(G' b).isSome=true->(G b).isSome=true∨w.heap.size<=b)/\∀b,(G b).isSome=true->(G' b).isSome=true:=fun hp2 w2 hs2=>by
     have k5:Ok ⟨P,Φ,w.heap.size,fn.ntmps,cm (sp.pre.os.map (SO.den ρ)),s7 ρ sp.pre.gs,G,Γ,hp2,nx',[]⟩ ⟨tm'.lo,tm'.hi,[]⟩ G' Γ' ρ' s':=⟨k4.sat,⟨rfl,fun k v hkv=>(Ak tm' [] k).trans (k4.q.at_ k v hkv),k4.q.uB,k4.q.rl,k4.q.grow,k4.q.own,k4.q.new,k4.q.nd,k4.q.ht,k4.q.ty,k4.q.gs⟩⟩;refine⟨ak ι2 (r.den ρ'),lT hP k5 hs2 hrl hr,_,rfl,r.den ρ',G',⟨Γ',ρ2,p,m1,m4.symm,k2.trans m2 (zad _),⟨m3.sat,m3.q.rl,m3.q.ht,fun o ho=>m3.q.own _ (List.mem_map.2 ⟨o,ho,rfl⟩),m3.q.nd,fun o ho=>m3.q.new _ (List.mem_map.2 ⟨o,ho,rfl⟩),fun f hf=>m3.q.ty _ (List.mem_map.2 ⟨f,hf,rfl⟩),fun q hq=>m3.q.gs (ig ρ2 q.1,(ρ2 q.2.1).gg,q.2.2) (List.mem_map.2 ⟨q,hq,rfl⟩)⟩⟩,hnf,hnf _ _,?_,fun b g hb'=>(hs2.2.1 b g hb').less fun b hb=>.inl hb,fun b hb=>k4.q.grow.new b hb,k4.q.grow.old⟩;have c1:=qw (jz (a:=.e) (fun id o h=>no h) (hs2.1.2 ι2 (al.refl _ _)).2) ι;exact⟨hc.below.trans (c1.below.mono fun k hk=>.inl hk),fun k hk=>c1.room k (.inl hk),fun id o h=>no h,fun id o h=>no h,fun id id' o o' _ h=>no h,fun id id' f ep es n el c f' ep' tp' es' n' el' c' _ h=>no h⟩
    obtain⟨t0,c0⟩:=hs.1.2 ι2 (al.refl _ _);have hml:tm'.ml=ml1:=k4.q.ml;rw[t0.defers,hml]
    have hend:Fv ml1 hp' (fun _=>.ok)=.ok:=by
     rcases hml1 with ⟨rfl,_,rfl⟩|⟨rfl,_,rfl⟩
     ·rfl
     ·rfl
    have hin:=KW hs;obtain⟨hp2,_,hwf2,w2,hc2,hgo⟩:=xJ (fn:=fn) (tmps:=a'.tmps) (R:=fun e w''=>∃cv,e=.returned cv/\∃v G',(∃Γ' ρ',∃p∈sp.fR,v=p.1.den ρ'/\cM sp.pre.nx ρ ρ'/\Out P Φ (cm (sp.pre.os.map (SO.den ρ))) (s7 ρ sp.pre.gs) G Γ G' Γ' ρ' p.2)/\nf v/\cv=ak ι v/\Core B w0 ι .e w''/\AD B G' w''/\(∀b,(G' b).isSome=true->(G b).isSome=true∨w.heap.size<=b)/\∀b,(G b).isSome=true->(G' b).isSome=true) ml1 hp' _ hend hin.1 (fun ι' hι=>(hin.2 ι' hι).2);exact hgo (last hp2 w2 (H2 hs ⟨hwf2,fun ι' hι=>⟨⟨(hin.2 ι' hι).1.size,rfl,fun t=>(hin.2 ι' hι).1.val t⟩,hc2 ι' hι⟩⟩))
  ·cases hfin
 cases e with
 |eJ=>exact finish k1
 |ext id=>cases k1
 |ret=>exact finish k1
theorem bF {P:Program}{Φ:Forms}{aU:List Sp}(h:∀sp∈aU,∀m:Nat,(∀sp'∈aU,∀m':Nat,(sp'.str<sp.str∨(sp'.str=sp.str/\m'<m))->kx P Φ sp' m')->kx P Φ sp m):∀sp∈aU,∀m:Nat,kx P Φ sp m:=by
 have key:∀(n m:Nat) (sp:Sp),sp∈aU->sp.str=n->kx P Φ sp m:=by
  intro n
  induction n using Nat.strongRecOn with
  |ind n ih =>
   intro m
   induction m using Nat.strongRecOn with
   |ind m ih2 =>
    intro sp hsp hs;refine h sp hsp m fun sp' hsp' m' hc=>?_;rcases hc with hc|⟨hc,hm⟩
    ·exact ih sp'.str (by omega) m' sp' hsp' rfl
    ·exact ih2 m' hm sp' hsp' (by omega)
 exact fun sp hsp m=>key sp.str m sp hsp rfl
end Go.Rd
namespace Go.Rd
open Go.aI Go.RowKit Go.Rt
def US (s:SS):Option SC->Option SC->Nat->Option SC
 |some (.ref y),some (.int _ e),o=>(match py s.ty y with|some (cc,_)=>O4 s.ty y cc e o|none=>none)
 |_,_,_=>none
inductive XR where|t (t:Nat)|p (t i:Nat)|c (t o:Nat)|e (x i:XR) (o:Nat)|d (t i o:Nat)|lo (el o:Nat)
inductive XG where|z|r (x:XR)|n (k:Nat)|m (x:XR)
inductive XE where
 |k (n:Int)|v (x:XR)|len (x:XR)|wt (x:XR)|gn (g:XG) (k:Nat)|add (a b:XE)|sub (a b:XE)|mul (n:Int) (a:XE)|pw (x:XR) (i:XE)|raw (e:LE)|Qa (x:XR)|Qb (x:XR)
def L5:List SO->Nat->Option (Nat×List SC)
 | [],_=>none
 |.loc b e cs::l,el=>bif Nat.beq e el then some (b,cs)else L5 l el
 |_::l,el=>L5 l el
def rC (s:SS):XR->Option SC
 |.t t=>(match uI s.L t with|some (.v _ [x])=>some x|_=>none)
 |.p t i=>(match uI s.L t with|some (.v _ cs)=>cs[i]?|some (.dC l)=>(match l[i]? with|some (_,[x])=>some x|_=>none)|_=>none)
 |.c t o=>(match uI s.L t with|some (.v _ [.cu b o'])=>(match ic s.os b with|some (_,cs)=>cs[o'+o]?|none=>none)|_=>none)
 |.e x i o=>US s (rC s x) (rC s i) o
 |.d t i o=>(match uI s.L t with|some (.v _ [.cu b o'])=>(match ic s.os b with|some (_,cs)=>(match cs[o'+i]? with|some (.cu b2 o2)=>(match ic s.os b2 with|some (_,ds)=>ds[o2+o]?|none=>none)|_=>none)|none=>none)|_=>none)
 |.lo el o=>(match L5 s.os el with|some (_,cs)=>cs[o]?|none=>none)
def V2 (s:SS)(y:Nat):Option Nat:=match py s.ty y with
 |some (_,g)=>some g
 |none=>match pI s.ty y with
  |some (_,g)=>some g
  |none=>match BF s.ty y with
   |some (_,g)=>some g
   |none=>match BH s.os y with|some (.ul _ g)=>some g|_=>none
def rG (s:SS):XG->Option Nat
 |.z=>some 0
 |.n k=>(s.gs[k]?).map (·.1)
 |.r x=>(match rC s x with|some (.ref y)=>V2 s y|_=>none)
 |.m x=>(match rC s x with|some (.cV b)=>(match yF s.os b with|some (.km _ g _)=>some g|some (.kq _ g _ _)=>some g|_=>none)|_=>none)
def RT (s:SS)(y:Nat):Nat:=match BH s.os y with|some (.bl m _)=>m|_=>y
def rE (s:SS):XE->Option LE
 |.k n=>some (.k n)
 |.v x=>(match rC s x with|some (.int _ e)=>some e|_=>none)
 |.len x=>(match rC s x with|some (.ref y)=>some (.a (.len (RT s y)))|some .ab=>some (.k 0)|some (.wE _ n)=>some (.k n)|_=>none)
 |.wt x=>(match rC s x with|some (.ref y)=>some (.a (.wt (RT s y)))|some .ab=>some (.k 0)|_=>none)
 |.gn g k=>(match rG s g with|some g=>(match ghost s.gs g with|some d=>some (.a (.gn d k))|none=>none)|none=>none)
 |.add a b=>(match rE s a,rE s b with|some x,some y=>some (x.add y)|_,_=>none)
 |.sub a b=>(match rE s a,rE s b with|some x,some y=>some (x.sub y)|_,_=>none)
 |.mul n a=>(rE s a).map (LE.nG n)
 |.pw x i=>(match rC s x,rE s i with|some (.ref y),some e=>yp s y e|some .ab,some e=>some e|_,_=>none)
 |.raw e=>some e
 |.Qb x=>(match rC s x with|some (.cV b)=>(match yF s.os b with|some (.km _ _ n)=>some n|some (.kq _ _ n _)=>some n|_=>(match TL s.os b with|some (_,_,f)=>some f|none=>none))|some (.cu b _)=>(match TG s.os b with|some (_,_,r,_,_)=>some r|none=>none)|_=>none)
 |.Qa x=>(match rC s x with|some (.str y)=>some (.a (.sl y))|some (.mF l _)=>some (.k l)|_=>none)
def JR:List (Nat×SV)->Nat->List (Nat×SV)
 | [],_=>[]
 |p::l,t=>bif Nat.beq p.1 t then JR l t else p::JR l t
def Qc:List (Nat×SV)->List (Nat×SV)
 | []=>[]
 |p::l=>p::JR (Qc l) p.1
def vz:List SC->Nat->SC->List SC
 | [],_,_=>[]
 |x::l,i,y=>bif Nat.beq i 0 then y::l else x::vz l (i-1) y
def vA (s:SS)(r:XR)(x:SC):SS:=match r with
 |.t t=>⟨s.nx,(t,sc x)::JR s.L t,s.os,s.ty,s.gs,s.fs,s.bs,s.pw,s.ats,s.cU,s.ne,s.fz,s.sb⟩
 |.p t i=>(match uI s.L t with|some (.v ag cs)=>⟨s.nx,(t,.v ag (vz cs i x))::JR s.L t,s.os,s.ty,s.gs,s.fs,s.bs,s.pw,s.ats,s.cU,s.ne,s.fz,s.sb⟩|_=>s)
 |.c t o=>(match uI s.L t with|some (.v _ [.cu b o'])=>(match ic s.os b with|some (_,cs)=>dm s (eY s.os b (vz cs (o'+o) x))|none=>s)|_=>s)
 |.e _ _ _=>s
 |.d t i o=>(match uI s.L t with|some (.v _ [.cu b o'])=>(match ic s.os b with|some (_,cs)=>(match cs[o'+i]? with|some (.cu b2 o2)=>(match ic s.os b2 with|some (_,ds)=>dm s (eY s.os b2 (vz ds (o2+o) x))|none=>s)|_=>s)|none=>s)|_=>s)
 |.lo el o=>(match L5 s.os el with|some (b,cs)=>dm s (eY s.os b (vz cs o x))|none=>s)
def L6 (x i:XR)(off n:Nat)(s:SS):Option Ga:=match rC s x,rC s i with|some (.ref y),some (.int _ e)=>some (.el y e off n)|_,_=>none
inductive Gn where
 |int (r:XR)|nat (r:XR)|bool (r:XR)|str (r:XR)|sl (r:XR) (c:Nat) (g:XG)|iF (r:XR) (c:Nat)|VC (r:XR) (c:Nat) (g:XG)|ms (r:XR)|ul (r:XR) (c:Nat) (g:XG)|pw (r:XR) (i:XE)|ge (e:XE)|bE (ts:List Nat)|bl (r:XR)|Ki (g:XG)|V3 (g:XG)|gc|im (r:XR) (e:XE)|km (r:XR)|it (r:XR)
def Ny (x:Nat):SO->Bool|.iF y _ _=>Nat.beq y x|_=>false
def Qd (f:SO->Bool)(l:List SO):List SO:=l.filter fun o=>!f o
def Nz (s:SS)(r:XR):IntKind:=match rC s r with|some (.int k _)=>k|_=>.i64
def V4:At->List Nat|.n k=>[k]|.z k=>[k]|_=>[]
def Dm (e:LE):List Nat:=e.ts.flatMap fun p=>V4 p.2
def V5:BE->List Nat|.ge e=>Dm e|.eq e=>Dm e|.ne e=>Dm e|_=>[]
def TN:SC->List Nat|.int _ e=>Dm e|.bool b=>V5 b|.oB _ e _ _=>Dm e|_=>[]
def V6:SV->List Nat|.v _ cs=>cs.flatMap TN|.dC l=>l.flatMap fun p=>p.2.flatMap TN|.ve _ _ cs=>cs.flatMap TN|_=>[]
def V7:SO->List Nat|.loc _ _ cs=>cs.flatMap TN|.im _ e=>Dm e|.km _ _ _ n=>Dm n|.kq _ _ _ n _=>Dm n|.rm _ _ _ n=>Dm n|.it _ _ n r _ _=>Dm n++Dm r|.ms _ _ _ _ f _=>Dm f|_=>[]
def V8 (s:SS):SS :=
 let live:=s.L.flatMap (fun p=>V6 p.2)++s.os.flatMap V7
 let pw:=s.pw.filter fun p=>(Dm p.2.1).all live.contains
 let lv:=live++pw.flatMap fun p=>Dm p.2.2
 ⟨s.nx,s.L,s.os,s.ty,s.gs,s.fs.filter (fun e=>(Dm e).all lv.contains),s.bs,pw,s.ats,s.cU,s.ne,s.fz,s.sb⟩
def UT (s:SS):Gn->Option SS
 |.int r=>some (vA (aC s) r (.int (Nz s r) (.a (.z s.nx))))
 |.nat r=>some (vA (aC s) r (.int (Nz s r) (.a (.n s.nx))))
 |.bool r=>some (vA (aC s) r (.bool (.v s.nx)))
 |.str r=>some (vA (aC s) r (.str s.nx))
 |.sl r c g=>(rG s g).map fun g=>aY (vA (aC s) r (.ref s.nx)) (.sl s.nx c g)
 |.iF r c =>
  let os:=match rC s r with|some (.ref y)=>Qd (Ny y) s.os|_=>s.os
  some (aY (dm (vA (aC (dm s os)) r (.ref s.nx)) (.iF s.nx c 0::(vA (aC (dm s os)) r (.ref s.nx)).os)) (.sl s.nx c 0))
 |.VC r c g=>(rG s g).map fun g =>
  let os:=match rC s r with|some (.ref y)=>Qd (Ny y) s.os|_=>s.os
  aY (dm (vA (aC (dm s os)) r (.ref s.nx)) (.iF s.nx c g::(vA (aC (dm s os)) r (.ref s.nx)).os)) (.sl s.nx c g)
 |.ms r=>(match rC s r with
  |some (.cV b)=>some (dm (aC s) (s.os.map fun o=>match o with|.ms y x c g f q=>bif Nat.beq y b then .ms y x c g (.a (.n s.nx)) none else .ms y x c g f q|o=>o))
  |_=>none)
 |.ul r c g=>(rG s g).map fun g =>
  let os:=match rC s r with|some (.ref y)=>Qd (Gr y) s.os|_=>s.os
  let s':=vA (aC (dm s os)) r (.ref s.nx)
  dm s' (.ul s.nx c g::s'.os)
 |.pw r i=>(match rC s r,rE s i with|some (.ref y),some e=>some (qF (aC s) (y,e,.a (.n s.nx)))|some .ab,some _=>some s|_,_=>none)
 |.ge e=>(rE s e).map (aP s)
 |.bE ts=>some ⟨s.nx,Qc (s.L.filter fun p=>ts.contains p.1),s.os,s.ty,s.gs,s.fs,s.bs,s.pw,s.ats,s.cU,s.ne,s.fz,s.sb⟩
 |.bl r=>(match rC s r with
  |some (.ref y)=>(match pB (PD y) s.os with
   |some (.bl _ m el,osA)=>some (jR (dm (aC s) (.bl y s.nx el::osA)) (.a (.len s.nx)) (.a (.len m)))
   |_=>none)
  |_=>none)
 |.Ki g=>(match rG s g with
  |some g=>(match jd s.gs g with
   |some d=>some (pC (aC s) g s.nx true s.os [] [] [] (mj s.sb d s.nx))
   |none=>none)
  |none=>none)
 |.gc=>some (V8 s)
 |.V3 g=>(match rG s g with
  |some g=>(match jd s.gs g with
   |some _=>some (pC (aC s) g s.nx true s.os [] [] [] (s.sb.filter fun p=>!Nat.beq p.1 g))
   |none=>none)
  |none=>none)
 |.km r=>(match rC s r with
  |some (.cV b)=>some (dm (aC s) (s.os.map fun o=>match o with|.km y c g n=>bif Nat.beq y b then .km y c g (.a (.n s.nx))else .km y c g n|.kq y c g n q=>bif Nat.beq y b then .kq y c g (.a (.n s.nx)) none else .kq y c g n q|o=>o))
  |_=>none)
 |.it r=>(match rC s r with
  |some (.cu b _)=>some (dm (aC s) (s.os.map fun o=>match o with|.it y m n k st ty=>bif Nat.beq y b then .it y m n (.a (.n s.nx)) false ty else .it y m n k st ty|o=>o))
  |_=>none)
 |.im r e=>(match rC s r,rE s e with
  |some (.cV b),some e=>some (dm s (s.os.map fun o=>match o with|.im y e0=>bif Nat.beq y b then .im y e else .im y e0|o=>o))
  |_,_=>none)
def Qe:List Gn->SS->Option SS
 | [],s=>some s
 |g::l,s=>(UT s g).bind (Qe l)
def Bx (gs:List Gn)(mu:XE)(s:SS):Option (SS×LE):=(Qe gs s).bind fun s'=>(rE s' mu).map fun m=>(s',m)
end Go.Rd
namespace Go.Rd
open Go.aI Go.RowKit Go.Rt
def nC (Φ:Forms)(g:Nat)(k:K2)(s:SS):SC×SS:=match k with
 |.int k=>(.int k (.a (.z s.nx)),aC s)
 |.nat b=>(match ghost s.gs g with
  |some d=>(.int .i64 (.a (.n s.nx)),aP (aC s) (((LE.a (.gn d b)).sub (.a (.n s.nx))).bk (-1)))
  |none=>(.int .i64 (.a (.n s.nx)),aC s))
 |.pos b=>(match ghost s.gs g with
  |some d=>(.int .i64 (.a (.n s.nx)),aP (aP (aC s) ((LE.a (.n s.nx)).bk (-1))) ((LE.a (.gn d b)).sub (.a (.n s.nx))))
  |none=>(.int .i64 (.a (.n s.nx)),aC s))
 |.str=>(.str s.nx,aC s)
 |.rp=>(.str s.nx,aC s)
 |.sU=>(.str s.nx,aC s)
 |.vx b=>(.str s.nx,aP (aC s) ((LE.k b).sub (.a (.sl s.nx))))
 |.bool=>(.bool (.v s.nx),aC s)
 |.oz k=>(.oz k s.nx,aC s)
 |.sl c=>(.ref s.nx,aY (aC s) (.sl s.nx c (bif Φ.dep c then g else 0)))
 |.BD c _=>(.ref s.nx,aY (aC s) (.sl s.nx c (bif Φ.dep c then g else 0)))
 |.x5 c _=>(.ref s.nx,aY (aC s) (.sl s.nx c (bif Φ.dep c then g else 0)))
 |.DU c _=>(.ref s.nx,aY (aC s) (.sl s.nx c (bif Φ.dep c then g else 0)))
 |.Ct c _=>(.ref s.nx,aY (aC s) (.sl s.nx c (bif Φ.dep c then g else 0)))
 |.rq b=>(match ghost s.gs g with
  |some d=>(.int .i64 (.a (.n s.nx)),aP (aC s) (((LE.a (.gn d b)).sub (.a (.n s.nx))).bk (-1)))
  |none=>(.int .i64 (.a (.n s.nx)),aC s))
 |.yY c _=>(.ref s.nx,aY (aC s) (.sl s.nx c (bif Φ.dep c then g else 0)))
 |.AR c=>(.ref s.nx,aY (aC s) (.sl s.nx c (bif Φ.dep c then g else 0)))
 |.ptr c=>(.ref s.nx,aY (aC s) (.pt s.nx c (bif Φ.dep c then g else 0)))
 |.mp c=>(.ref s.nx,aY (aC s) (.mp s.nx c (bif Φ.dep c then g else 0)))
 |_=>(.ab,s)
def VD (Φ:Forms)(g:Nat):List K2->SS->List SC×SS
 | [],s=>([],s)
 |k::ks,s=>let p:=nC Φ g k s;let q:=VD Φ g ks p.2;(p.1::q.1,q.2)
 abbrev Bl:=SS->SS->SV×SS
def bK (Φ:Forms)(g:Nat)(k:K2):Bl:=fun e s=>let p:=nC Φ g k ⟨s.nx,s.L,s.os,s.ty,s.gs++e.gs,s.fs,s.bs,s.pw,s.ats,s.cU,s.ne,s.fz,s.sb⟩;(sc p.1,⟨p.2.nx,s.L,s.os,p.2.ty,s.gs,p.2.fs,s.bs,s.pw,s.ats,s.cU,s.ne,s.fz,s.sb⟩)
def bI:Bl:=fun _ s=>(sc (.int .i64 (.a (.z s.nx))),aC s)
def bN:Bl:=fun _ s=>(sc (.int .i64 (.a (.n s.nx))),aC s)
def bB:Bl:=fun _ s=>(sc (.bool (.v s.nx)),aC s)
def bS:Bl:=fun _ s=>(sc (.str s.nx),aC s)
def jo (c g:Nat):Bl:=fun _ s=>(sc (.ref s.nx),aY (aC s) (.sl s.nx c g))
def bC (x:SC):Bl:=fun _ s=>(sc x,s)
def Qf (x:XR):Bl:=fun e s=>(sc ((rC e x).getD .ab),s)
def RU:SV->Bool×List SC|.v a cs=>(a,cs)|_=>(false,[])
def bT (l:List Bl):Bl:=fun e s=>let p:=l.foldl (fun (p:List (Bool×List SC)×SS) b=>let q:=b e p.2;(p.1++[RU q.1],q.2)) ([],s);(.dC p.1,p.2)
def bA (l:List Bl):Bl:=fun e s=>let p:=l.foldl (fun (p:List SC×SS) b=>let q:=b e p.2;(p.1++(RU q.1).2,q.2)) ([],s);(.v true p.1,p.2)
def jh (Φ:Forms)(g:Nat)(ks:List K2):Bl:=bA (ks.map (bK Φ g))
def RV:List Bl->Nat->Bl->List Bl
 | [],_,_=>[]
 |x::l,i,y=>bif Nat.beq i 0 then y::l else x::RV l (i-1) y
def L7 (Φ:Forms)(g:Nat)(ks:List K2)(ov:List (Nat×Bl)):Bl:=bA (ov.foldl (fun l p=>RV l p.1 p.2) (ks.map (bK Φ g)))
def VE:List Bl->SS->SS->List SV×SS
 | [],_,s=>([],s)
 |b::l,e,s=>let p:=b e s;let q:=VE l e p.2;(p.1::q.1,q.2)
def RW (n:Nat):SS:=⟨n,[],[],[],[],[],[],[],[],[],[],[],[]⟩
def NA (s:SS)(l:List LE):SS:=l.foldl aP s
def UU (s:SS):SS:=⟨s.nx,[],s.os,s.ty,s.gs,s.fs,s.bs,s.pw,s.ats,s.cU,s.ne,s.fz,s.sb⟩
def EH (s:SS)(L:List (Nat×SV)):SS:=⟨s.nx,L,s.os,s.ty,s.gs,s.fs,s.bs,s.pw,s.ats,s.cU,s.ne,s.fz,s.sb⟩
def bY (f:Nat)(s0:SS)(ar:List Bl)(pre:List XE)(fR:List (Bl×List XE))(str:Nat)(ms:XE):Sp :=
 let p:=VE ar s0 s0
 let s:SS:=EH p.2 (rR 0 p.1)
 let s1:=NA (UU p.2) (pre.filterMap (rE s))
 ⟨f,s1,p.1,fR.map fun q =>
  let r:=q.1 s (RW s1.nx)
  let t:SS:=⟨r.2.nx,(100,r.1)::rR 0 p.1,r.2.os++s.os,r.2.ty++s.ty,r.2.gs++s.gs,r.2.fs,r.2.bs,r.2.pw,r.2.ats,r.2.cU,r.2.ne,r.2.fz,r.2.sb⟩
  (r.1,NA r.2 (q.2.filterMap (rE t))),str,(rE s ms).getD (.k 0)⟩
def dW (f:Nat)(ar:List Bl)(pre:List XE)(fR:List (Bl×List XE))(str:Nat)(ms:XE):Sp:=bY f (RW 0) ar pre fR str ms
def JS:Gu:=⟨fun _ _ _=>.no,fun _=>[],fun _ _=>none,fun _ _=>none,fun _=>[],fun _=>0,fun _ _=>[],fun _ _=>false⟩
def e8 (i:XR)(l:XE)(gs:List Gn)(ts:List Nat):SS->Option (SS×LE):=Bx ([.nat i,.ge (.sub l (.v i))]++gs++[.bE ts]) (.sub l (.v i))
def V9 (t:XR)(lp:SS->Option (SS×LE))(s:SS):Option (SS×LE):=match rC s t with
 |some (.int _ e)=>bif bo s ((LE.k (-1)).sub e)then some (EH s (Qc s.L),.k 0)else lp s
 |_=>lp s
def Bz (x i:XR)(s:SS):Option Ga:=match rC s x,rC s i with
 |some (.ref y),some (.int _ e)=>bif bo s (e.sub (.a (.len y)))then some (.UO y e)else none
 |_,_=>none
def UW (_:SS):Option Ga:=some .abs
def room (lo:Int)(t i x:XR)(n:LE)(used:XE)(ts:List Nat):SS->Option (SS×LE):=V9 t (Bx [.int t,.ge (.add (.v t) (.k lo)),.nat i,.ge (.sub (.len x) (.v i)),.pw x (.v i),.ge (.sub (.wt x) (.pw x (.v i))),.ge (.sub (.raw n) (.add (.add (.v t) used) (.pw x (.v i)))),.bE ts] (.sub (.len x) (.v i)))
end Go.Rd
namespace Go.Rd
open Go.aI Go.RowKit Go.Rt
def RX:Gu:={ JS with lp:=fun id s=>Bx [.im (.lo 159 3) (.k 2),.int (.t 3),.ge (.add (.v (.t 3)) (.k 1)),.ge (.sub (.sub (.len (.c 1 0)) (.k 1)) (.v (.t 3))),.bE [0,1,3]] (.add (.v (.t 3)) (.k 1)) s }
def RY:Gu:={ JS with
 an:=fun id s i=>match id,i with|1,4=>.ty 34 0|2,4=>(match rG s (.r (.d 1 0 2))with|some g=>.ty 109 g|none=>.no)|_,_=>.no
 lp:=fun id s=>e8 (.t 21) (.len (.t 19)) [.sl (.lo 71 0) 110 .z,.ge (.sub (.v (.t 21)) (.len (.lo 71 0)))] [0,1,3,4,19,20,21] s }
def VF:Nat->Gu:=fun f=>match f with|121=>RX|201=>RY|_=>JS
end Go.Rd
namespace Go.Rd
open Go.aI Go.RowKit Go.Rt
inductive Sl where|a|o|n (l r:Sl)
def R.iV:Sl->R->Bool
 |.a,r=>r.okB
 |.o,_=>true
 |.n x y,r=>match r with
  |.ok=>true
  |.bad _ _=>false
  |.both a b=>bif R.iV x (a ())then R.iV y (b ())else false
def Sl.mk:Sl->Sl->Sl
 |.a,.a=>.a
 |x,y=>.n x y
def Sl.un:Sl->Sl->Sl
 |.a,_=>.a
 |.o,y=>y
 |.n _ _,.a=>.a
 |.n l r,.o=>.n l r
 |.n l r,.n l2 r2=>Sl.mk (l.un l2) (r.un r2)
theorem JT {x y:Sl}{r:R}(h:R.iV (.n x y) r=true):R.iV (x.mk y) r=true:=by
 cases x<;>cases y<;>first|exact h|(cases r<;>exact h)
theorem NB {x y:Sl}{a b:Unit->R}(h:R.iV (.n x y) (.both a b)=true):R.iV x (a ())=true/\R.iV y (b ())=true:=by
 have h:(bif R.iV x (a ())then R.iV y (b ())else false)=true:=h;cases ha:R.iV x (a ())with
 |false=>rw[ha]at h;cases h
 |true=>rw[ha]at h;exact⟨rfl,h⟩
theorem cE:∀{x y:Sl}{r:R},R.iV x r=true->R.iV y r=true->R.iV (x.un y) r=true
 |.a,_,_,h,_=>h
 |.o,_,_,_,h=>h
 |.n _ _,.a,_,_,h=>h
 |.n _ _,.o,_,h,_=>h
 |.n _ _,.n _ _,.ok,_,_=>JT rfl
 |.n _ _,.n _ _,.bad _ _,h,_=>by cases h
 |.n l1 l2,.n r1 r2,.both u v,h,h'=>by
  refine JT ?_;obtain⟨h1,h2⟩:=NB h;obtain⟨h3,h4⟩:=NB h';show (bif R.iV (l1.un r1) (u ())then R.iV (l2.un r2) (v ())else false)=true;rw[cE h1 h3,cE h2 h4];rfl
theorem ky {x:Sl}{r:R}(h:R.iV x r=true)(hx:x=.a):r.okB=true:=by subst hx;exact h
def az (P:Program)(Φ:Forms)(keys:List (TypeId×KK))(aU:List Sp)(x:Sp)(gu:Gu):R:=match P.funcs[x.f]? with
 |some fn=>(match fn.body with
  |some co=>bif !(fn.name == "runtime.NumGoroutine")&&(Nat.ble x.ar.length fn.ntmps&&(x.ms.lt x.pre.nx&&bo x.pre x.ms))then LR ⟨P,Φ,fn.ntmps,keys⟩ ⟨aU,x.str,x.ms,none⟩ gu VF true co 0 x.start (fin ⟨P,Φ,fn.ntmps,keys⟩ x fn.results.toList)else .bad 700 x.pre
  |none=>.bad 701 x.pre)
 |none=>.bad 702 x.pre
theorem GN {P:Program}{Φ:Forms}{keys:List (TypeId×KK)}{aU:List Sp}{x:Sp}{gu:Gu}{m:Nat}(hK:∀p∈keys,oY P p.1 p.2)(hmix:P.follows .mixedOrders=true)(h:(az P Φ keys aU x gu).Ok)(hI:∀sp'∈aU,∀m':Nat,(sp'.str<x.str∨(sp'.str=x.str/\m'<m))->kx P Φ sp' m'):kx P Φ x m:=by
 unfold az at h;cases hf:P.funcs[x.f]? with
 |none=>rw[hf]at h;cases h
 |some fn =>
  rw[hf]at h;simp only at h;cases hb:fn.body with
  |none=>rw[hb]at h;cases h
  |some co =>
   rw[hb]at h;simp only at h;cases hc:(!(fn.name == "runtime.NumGoroutine")&&(Nat.ble x.ar.length fn.ntmps&&(x.ms.lt x.pre.nx&&bo x.pre x.ms)))with
   |false=>rw[hc]at h;cases h
   |true =>
    rw[hc]at h;simp only[za,zaj]at hc;obtain⟨c1,c2,c3,c4⟩:=hc;exact holds_of (cf:=⟨P,Φ,fn.ntmps,keys⟩) (rk:=⟨aU,x.str,x.ms,none⟩) (gi:=VF) rfl rfl rfl hK hmix hf hb c1 c2 rfl rfl c3 rfl h hI fun ρ hs=>ax c4 hs
theorem JU {P:Program}{Φ:Forms}{keys:List (TypeId×KK)}{aU:List (Sp×Gu)}{ext:List Sp}(hK:∀p∈keys,oY P p.1 p.2)(hmix:P.follows .mixedOrders=true)(hext:∀sp∈ext,∀m,kx P Φ sp m)(h:∀e∈aU,(az P Φ keys (aU.map (·.1)++ext) e.1 e.2).Ok):∀sp∈aU.map (·.1)++ext,∀m:Nat,kx P Φ sp m:=by
 refine bF fun sp hsp m hI=>?_;rcases List.mem_append.1 hsp with hsp|hsp
 ·obtain⟨e,h1,rfl⟩:=List.mem_map.1 hsp;exact GN hK hmix (h e h1) hI
 ·exact hext sp hsp m
theorem all_nil {α:Type}{p:α->Prop}:∀e∈([]:List α),p e:=fun e h=>by cases h
theorem all_cons {α:Type}{p:α->Prop}{a:α}{l:List α}(h:p a)(hl:∀e∈l,p e):∀e∈a::l,p e:=fun e he=>by
 rcases List.mem_cons.1 he with rfl|he
 ·exact h
 ·exact hl e he
end Go.Rd
namespace Go.Rd
open Go.aI Go.RowKit Go.Rt
def i64:K2:=.int .i64
def RZ (p:Nat):List K2:=[i64,.bool,i64,.oz .f64,.str,.str,.sl (p+17),.sl (p+15)]
def GO (p:Nat):List K2:=[i64,.str,.bool,.sl (p+1),.sl (p+2),i64,i64]
def iW (p:Nat):Nat->List K2
 |1=>GO p
 |2=>.str::GO p++[i64,i64]
 |3=>.str::GO p++[i64,i64]
 |4=>[.str,.sl (p+3),i64,i64]
 |5=>[i64,.str,.str,.str,.sl (p+3),.sl (p+4),.sl (p+5),i64,i64]
 |6=>[i64,.str,.str,.bool,.sl (p+7),.sl (p+4),.sl (p+5),i64,i64]
 |7=>[.str,.str,bif Nat.beq p 0 then .vx 2097152 else .str,.bool]++GO p++[.sl (p+4),i64,i64]
 |8=>[i64,.bool,.bool,.bool,.str,.str,.sl (p+13),.sl (p+4),.sl (p+9),.sl (p+10),.sl (p+13),.sl (p+11),.sl (p+12),.bool,.sl (p+13),i64,i64]
 |9=>[.bool,.bool,.str,.str,.sl (p+10),.str,.str,.sl (p+4),i64,i64]
 |10=>[.bool,.bool,.str,.str,.str,.str]++(.bool::GO p)++[.sl (p+4),i64,i64]
 |11=>[.bool,.bool,.str,.str,.sl (p+4),i64,i64]
 |12=>[i64,.str,i64,i64]
 |13=>[.str,i64,i64]
 |14=>[.str]
 |15=>.str::RZ p
 |16=>[i64]
 |17=>RZ p
 |_=>[.bad]
def UX:Nat->Nat
 |1=>117|2=>204|3=>201|4=>99|5=>206|6=>112|7=>119|8=>83|9=>107|10=>203|11=>105|12=>218|13=>223|14=>9|15=>68|16=>3|17=>66|_=>0
def Wa:Nat->Bool|1=>false|2=>false|5=>false|_=>true
def Wb (b:Nat):K2->K2|.sl c=>.BD c b|k=>k
def VG:K2->K2|.sl c=>.x5 c 0|k=>k
def c9:List K2->Nat->K2->List K2
 | [],_,_=>[]
 |x::l,i,y=>bif Nat.beq i 0 then y::l else x::c9 l (i-1) y
def R1:Nat->List K2
 |80=>[.nat 0,i64,i64,.str,.sU,.str,.str,.str,.str,.bool,.sl 63,.sl 64,.DU 81 2000,i64,i64]
 |81=>[.rq 2]
 |82=>[.Ct 81 2000]
 |97=>[.nat 0,.nat 0]
 |98=>[.bool]
 |100=>[.nat 0]
 |101=>[.mp 99]
 |107=>[i64]
 |108=>[i64,i64]
 |109=>[.x5 107 0]
 |110=>[.str,.sl 107]
 |83=>[.x5 84 1]
 |84=>[.nat 0]
 |85=>[i64,.str,.str,.str,.bool,.bool,i64,i64]
 |86=>i64::GO 60++[.str,.str,.bool,.bool]
 |87=>[i64,i64,.str,.str,.sl 63,i64,i64,.bool]
 |90=>[i64,i64]
 |91=>[.str,i64,.bool]
 |92=>[i64,.sl 90,.sl 91]
 |93=>[.BD 92 16711680]
 |89=>[.DV 37,.yY 66 0,.yY 80 2,.yY 82 3,.sl 85,.sl 86,.sl 87,.mp 88,.yY 83 0]
 |_=>[.bad]
def Wc:Nat->TypeId|80=>52|81=>3|82=>48|83=>48|84=>3|85=>97|86=>139|87=>101|89=>134|90=>50|91=>285|92=>181|93=>85|97=>190|98=>4|100=>3|101=>291|107=>3|108=>189|109=>48|110=>155|_=>0
def Wd (c:Nat):List K2:=bif Nat.blt c 20 then iW 0 c else match c with
 |28=>(iW 20 8).map (Wb 1000)
 |35=>c9 ((iW 20 8).map VG) 5 .rp
 |36=>c9 (c9 ((iW 20 8).map VG) 5 .rp) 8 (.AR 29)
 |37=>iW 20 8++[.yY 36 2,.mp 38,.yY 39 1,.mp 40,.mp 41,.mp 42]
 |39=>iW 20 8
 |_=>bif Nat.blt c 60 then iW 20 (c-20)else bif Nat.blt c 80 then iW 60 (c-60)else R1 c
def We (c:Nat):TypeId:=bif Nat.blt c 20 then UX c else match c with
 |35=>83|36=>83|37=>126|39=>83
 |_=>bif Nat.blt c 60 then UX (c-20)else bif Nat.blt c 80 then UX (c-60)else Wc c
def VH (c:Nat):Bool:=bif Nat.blt c 20 then false else bif Nat.blt c 35 then Wa (c-20)else bif Nat.blt c 60 then true else Nat.ble 80 c&&!Nat.beq c 81
def Wg:Nat->Bool|35=>true|36=>true|37=>true|38=>true|40=>true|41=>true|80=>true|81=>true|82=>true|97=>true|99=>true|100=>true|101=>true|102=>true|103=>true|104=>true|83=>true|84=>true|88=>true|89=>true|94=>true|109=>true|_=>false
def Wh:Nat->KK|99=>.mE|102=>.int|103=>.jj|104=>.int|105=>.mE|106=>.mE|41=>.pair|43=>.mE|94=>.mE|96=>.int|_=>.str
def Wi:Nat->MV|38=>.F5 2|40=>.kd (.nat 1)|41=>.Ii|42=>.kd (.DW 43)|43=>.kd i64|88=>.F5 0|94=>.kd (.x5 90 0)|95=>.kd i64|99=>.kd (.x5 100 1)|102=>.kn 0 (.pos 2)|103=>.kn 0 i64|104=>.kn 0 (.nat 0)|105=>.kd i64|106=>.kd i64|_=>.unit
def Wj:Nat->Bool|37=>true|_=>false
def Φ7:Forms:=⟨Wd,We,VH,Wg,Wj,Wh,Wi,fun c=>Nat.blt c 20,fun c=>Nat.beq c 99||Nat.beq c 88,fun c=>VH c||Nat.beq c 81⟩
def VI (f:Nat):Nat->List Nat:=fun r=>match f with
 |8=>(match r with|15=>[0,1,2,3,4,5,6,7,8,9,10,11,12,13,14,15,16,17]|_=>[])
 |10=>(match r with|40=>[0,1,2,3,4,5,6,7,8,9]|41=>[0,1,2,3,4,5,6,7,8,9,10,11,12,13,14,15,16,17,18,19,20,21,22]|44=>[0,1,2,3,4,5,6,7,8,9,10,11,12,14]|_=>[])
 |11=>(match r with|5=>[0,1,2,3,4,5,6,7,8,9]|7=>[0,1,2,3,4,5,6]|18=>[0,1,2,3,4,5,6,7,8,9]|20=>[0,1,2,3,4,5,6,7,8,9,10,11,12,13,14,17]|_=>[])
 |39=>(match r with|4=>[0,1,2,3,4,5,6,7,8,9,10,11,12,13,14]|_=>[])
 |43=>(match r with|3=>[1,2]|4=>[0,3,6,10]|_=>[])
 |44=>(match r with|1=>[0,1,2,3,4,5,6,7,8,9]|3=>[0,1,2,3,4,5,6,7,8,9,10]|4=>[0,1,2,3,4,5,9,10]|_=>[])
 |45=>(match r with|1=>[0,1,2,3,4,5,6,7,8,9]|3=>[0,1,2,3,4,5,6,7,8,9,10]|4=>[0,1,2,3,4,5,9,10]|_=>[])
 |48=>(match r with|6=>[0,1,2,3,4,5,6,7,8,9,10,11,12]|8=>[0,1,2,3,4,5,6,7,8,9]|_=>[])
 |50=>(match r with|6=>[0,1,2,3,4,5,6,7,8,9,10,13,14]|20=>[0,1,2,3,4,5,6]|21=>[0,1,2,3,4,5,6,7,8,9,13,14]|_=>[])
 |87=>(match r with|2=>[1,2]|3=>[0,1,3,5]|_=>[])
 |91=>(match r with|1=>[0,1,2,3]|6=>[0,1,2,6]|_=>[])
 |103=>(match r with|1=>[0,1,2,3,4,5,6,7,8,10,11]|_=>[])
 |104=>(match r with|3=>[0,1,2,3,4,5,7,8,9]|4=>[0,1,2,3,4,5,6,7,8,9,10,13,14]|_=>[])
 |106=>(match r with|21=>[0,1,2,3,4,5,6,7,8,9,10]|26=>[0,1,2,3,4,5,7,8,9,10]|15=>[0,1,2,3,4,5,6,8,9,10,12]|17=>[0,1,2,3,4,5,7]|27=>[0,1,2,3,4,5,8,9]|_=>[])
 |150=>(match r with|9=>[0,1,2,3,4,5,7,8,9,12]|_=>[])
 |156=>(match r with|6=>[0,1,2,3,4,5,6,7,8,9,10,11,14,15]|_=>[])
 |157=>(match r with|17=>[0,1,2,3,4,5,6,7,8,9,10,11,12,13,14,15]|_=>[])
 |217=>(match r with|6=>[0,1,2,6]|11=>[0,1,2,3,4,5,7,8,9,12]|_=>[])
 |219=>(match r with|2=>[0,1,2,3,4,5,6,7,8,9,10,11,12,13,16,17]|8=>[0,1,2,3,4,5,7,8,9]|_=>[])
 |450=>(match r with|1=>[0,1,2,3,4,5,6,7,8,9]|_=>[])
 |_=>[]
def cj (f:Nat):Gu:={ JS with dr:=VI f }
def TO (lo:Int)(n:LE)(used:XE):List (Bl×List XE):=[(bI,[.add (.v (.t 100)) (.k lo),.sub (.k (-1)) (.v (.t 100))]),(bI,[.add (.v (.t 100)) (.k lo),.sub (.raw n) (.add (.v (.t 100)) used)])]
def TP (lo:Int)(n:LE):List XE:=[.add (.raw n) (.k lo),.sub (.k 1099511627776) (.raw n)]
def zA (k:Nat):LE:=.a (.z k)
def R2:Sp:=dW 40 [jh Φ7 0 (iW 0 1),bI] (TP 4194304 (zA 7)) (TO 4194305 (zA 7) (.add (.k 1) (.add (.wt (.p 0 3)) (.wt (.p 0 4))))) 0 (.add (.wt (.p 0 3)) (.wt (.p 0 4)))
def R3:Gu:={ JS with
 un:=fun _=>1
 ac:=fun id=>match id with|6=>[Bz (.c 2 3) (.t 5)]|9=>[L6 (.c 2 4) (.t 6) 0 10]|10=>[Bz (.c 2 4) (.t 6)]|_=>[]
 lp:=fun id s=>match id with
 |0=>room 4194305 (.t 1) (.t 5) (.c 2 3) (zA 7) (.k 1) [0,1,2,4,5] s
 |2=>room 4194305 (.t 1) (.t 6) (.c 2 4) (zA 7) (.add (.k 1) (.wt (.c 2 3))) [0,1,2,4,6] s
 |_=>none }
def R4:Sp:=dW 38 [jo 4 0,bI] (TP 8388608 (zA 1)) (TO 8388608 (zA 1) (.wt (.t 0))) 1 (.k 0)
def R5:Gu:={ JS with
 un:=fun _=>1
 ac:=fun id=>match id with|5=>[L6 (.t 0) (.t 5) 0 4]|8=>[L6 (.e (.t 0) (.t 5) 1) (.t 6) 0 10]|3=>[Bz (.e (.t 0) (.t 5) 1) (.t 6)]|9=>[Bz (.t 0) (.t 5)]|_=>[]
 lp:=fun id s=>match id with
 |0=>room 8388608 (.t 1) (.t 5) (.t 0) (zA 1) (.k 0) [0,1,4,5] s
 |2=>room 8388608 (.t 1) (.t 6) (.e (.t 0) (.t 5) 1) (zA 1) (.add (.k 1) (.pw (.t 0) (.v (.t 5)))) [0,1,4,5,6] s
 |_=>none }
def NC:Sp:=dW 40 [jh Φ7 0 (iW 0 1),bI] [] [(bI,[])] 0 (.add (.wt (.p 0 3)) (.wt (.p 0 4)))
def ND:Gu:={ JS with lp:=fun id s=>match id with
 |0=>e8 (.t 5) (.len (.c 2 3)) [.int (.t 1)] [0,1,2,4,5] s
 |2=>e8 (.t 6) (.len (.c 2 4)) [.int (.t 1)] [0,1,2,4,6] s
 |_=>none }
def NF:Sp:=dW 38 [jo 4 0,bI] [] [(bI,[])] 1 (.k 0)
def NG:Gu:={ JS with
 ac:=fun id=>match id with|5=>[L6 (.t 0) (.t 5) 1 1]|_=>[]
 lp:=fun id s=>match id with
 |0=>e8 (.t 5) (.len (.t 0)) [.int (.t 1)] [0,1,4,5] s
 |2=>e8 (.t 6) (.len (.e (.t 0) (.t 5) 1)) [.int (.t 1)] [0,1,4,5,6] s
 |_=>none }
def R6:Sp:=dW 39 [jo 10 0,bI] [] [(bI,[])] 2 (.k 0)
def R7:Gu:={ cj 39 with
 ac:=fun id=>match id with|4=>[L6 (.t 0) (.t 5) 0 17]|_=>[]
 lp:=fun id s=>match id with
 |0=>e8 (.t 5) (.len (.t 0)) [.int (.t 1)] [0,1,4,5] s
 |_=>none }
def L8:Sp:=dW 41 [jo 5 0,bI] (TP 8388608 (zA 1)) (TO 8388608 (zA 1) (.wt (.t 0))) 2 (.wt (.t 0))
def L9:Gu:={ JS with
 un:=fun _=>1
 ac:=fun id=>match id with|5=>[L6 (.t 0) (.t 5) 0 9]|8=>[L6 (.e (.t 0) (.t 5) 4) (.t 6) 0 10]|9=>[Bz (.e (.t 0) (.t 5) 4) (.t 6)]|11=>[Bz (.t 0) (.t 5)]|_=>[]
 lp:=fun id s=>match id with
 |0=>room 8388608 (.t 1) (.t 5) (.t 0) (zA 1) (.k 0) [0,1,4,5] s
 |2=>room 8388608 (.t 1) (.t 6) (.e (.t 0) (.t 5) 4) (zA 1) (.add (.k 1) (.pw (.t 0) (.v (.t 5)))) [0,1,4,5,6] s
 |_=>none }
def VJ:Sp:=dW 8 [jo 8 0,bI] [] [(bI,[])] 3 (.k 0)
def VK:Gu:={ cj 8 with
 lp:=fun id s=>match id with
 |0=>e8 (.t 5) (.len (.t 0)) [.int (.t 1)] [0,1,4,5] s
 |2=>e8 (.t 7) (.len (.c 6 11)) [.int (.t 1)] [0,1,4,5,6,7] s
 |4=>e8 (.t 8) (.len (.c 6 8)) [.int (.t 1)] [0,1,4,5,6,8] s
 |_=>none }
def JV:Sp:=dW 9 [jh Φ7 0 [.sl 6],bI] (TP 8388608 (zA 1)) (TO 8388608 (zA 1) (.wt (.p 0 0))) 3 (.k 0)
def JW:Gu:={ JS with
 un:=fun _=>1
 ac:=fun id=>match id with|5=>[L6 (.c 2 0) (.t 5) 0 9]|8=>[L6 (.e (.c 2 0) (.t 5) 4) (.t 6) 0 14]|4=>[UW]|11=>[Bz (.e (.c 2 0) (.t 5) 4) (.t 6)]|13=>[Bz (.c 2 0) (.t 5)]|_=>[]
 lp:=fun id s=>match id with
 |0=>room 8388608 (.t 1) (.t 5) (.c 2 0) (zA 1) (.k 0) [0,1,2,4,5] s
 |2=>room 8388608 (.t 1) (.t 6) (.e (.c 2 0) (.t 5) 4) (zA 1) (.add (.k 1) (.pw (.c 2 0) (.v (.t 5)))) [0,1,2,4,5,6] s
 |_=>none }
end Go.Rd
namespace Go.Rd
open Go.aI Go.RowKit Go.Rt
def wu (l:List XE):XE:=.sub (.k WU) (l.foldr .add (.k 0))
def Dn (a b:XR):XE:=.sub (.len b) (.len a)
def NH (a b:XR):XE:=.sub (.wt b) (.wt a)
def EI (p:Nat):Sp:=dW 217 [jh Φ7 0 (iW p 1)] [wu [.wt (.p 0 3),.wt (.p 0 4)]] [(jh Φ7 0 (iW 20 1),[NH (.p 100 3) (.p 0 3),NH (.p 100 4) (.p 0 4)])] 0 (.add (.wt (.p 0 3)) (.wt (.p 0 4)))
def R8 (i x dst:XR)(c:Nat)(ts:List Nat):SS->Option (SS×LE):=e8 i (.len x) [.pw x (.v i),.ge (.sub (.wt x) (.pw x (.v i))),.iF dst c,.ge (.sub (.pw x (.v i)) (.wt dst))] ts
def yV (i x dst:XR)(c g:Nat)(ts:List Nat):SS->Option (SS×LE):=e8 i (.len x) [.sl dst c (bif Nat.beq g 0 then .z else .n 0),.ge (.sub (.v i) (.len dst))] ts
def EJ:Gu:={ cj 217 with lp:=fun id s=>match id with
 |0=>R8 (.t 14) (.t 12) (.c 3 3) 21 [1,2,3,12,13,14] s
 |2=>R8 (.t 29) (.t 27) (.c 3 4) 22 [1,2,3,27,28,29] s
 |_=>none }
def VL (p:Nat)(x:XR):List XE:=bif Nat.beq p 0 then [wu [.wt x]]else []
def EK (p:Nat):Sp:=dW 150 [jo (p+4) 0] (VL p (.t 0)) [(jo 24 0,[Dn (.t 100) (.t 0)])] 1 (.k 0)
def EL:Gu:={ cj 150 with
 an:=fun id s i=>match id,i with|9,11=>.ty 23 0|11,3=>.ty 24 0|_,_=>.no
 lp:=fun id s=>match id with
 |0=>yV (.t 11) (.t 9) (.t 3) 24 0 [0,2,3,9,10,11] s
 |2=>yV (.t 23) (.t 21) (.c 6 1) 23 0 [0,2,3,9,10,11,5,6,21,22,23] s
 |_=>none }
def EM (p:Nat):Sp:=dW 151 [jo (p+10) 0] (VL p (.t 0)) [(jo 30 0,[Dn (.t 100) (.t 0)])] 2 (.k 0)
def EN:Gu:={ cj 151 with
 an:=fun id s i=>match id,i with|7,3=>.ty 30 0|_,_=>.no
 lp:=fun id s=>yV (.t 8) (.t 6) (.t 3) 30 0 [0,2,3,6,7,8] s }
def EO (p:Nat):Sp:=dW 149 [jh Φ7 0 (iW p 9)] (bif Nat.beq p 0 then [wu [.wt (.p 0 4),.wt (.p 0 7)]]else []) [(L7 Φ7 0 (iW 20 9) [(3,Qf (.p 0 3))],[Dn (.p 100 4) (.p 0 4),Dn (.p 100 7) (.p 0 7)])] 3 (.k 0)
def Ma:List Nat:=[6,7,8,9,10,11,12,14]
def Mb (p:Nat):Sp:=dW 91 [jh Φ7 0 (iW p 8)] (bif Nat.beq p 0 then [wu (Ma.map fun i=>.wt (.p 0 i))]else []) [(L7 Φ7 0 (iW 20 8) [(0,Qf (.p 0 0)),(5,Qf (.p 0 5))],Ma.map fun i=>Dn (.p 100 i) (.p 0 i))] 4 (.k 0)
def Mc:Gu:={ cj 91 with
 an:=fun id s i=>match id,i with|6,5=>.ty 29 0|12,4=>.ty 31 0|14,2=>.ty 33 0|15,2=>.ty 33 0|16,2=>.ty 33 0|17,2=>.ty 32 0|_,_=>.no
 lp:=fun id s=>match id with
 |0=>yV (.t 17) (.t 15) (.c 1 8) 29 0 [1,2,3,4,15,16,17] s
 |2=>yV (.t 31) (.t 29) (.c 1 11) 31 0 [1,2,3,4,29,30,31] s
 |_=>none }
def JX (n:Int)(x:XR):XE:=.sub (.k n) (.len x)
def R9:Sp:=dW 85 [bS,jo 29 0] [JX 1000 (.t 1)] [(jh Φ7 0 (iW 20 8),Ma.map fun i=>JX 1000 (.p 100 i))] 1 (.k 0)
def Sa:Sp:=dW 86 [bS,bS,bS] [] [(jh Φ7 0 (iW 20 9),[])] 1 (.k 0)
def Sc:Sp:=dW 87 [bS,bS] [] [(jh Φ7 0 (iW 20 9),[])] 1 (.k 0)
def Sd:Gu:={ cj 87 with an:=fun id s i=>match id,i with|3,2=>.ty 30 0|_,_=>.no }
def Se:Sp:=dW 88 [bS,jo 34 0] [JX 100 (.t 1)] [(jh Φ7 0 (iW 20 8),Ma.map fun i=>JX 1000 (.p 100 i))] 1 (.k 0)
def Sf:Gu:={ cj 88 with
 an:=fun id s i=>match id,i with|5,5=>.ty 31 0|_,_=>.no
 lp:=fun id s=>yV (.t 12) (.t 10) (.c 5 11) 31 0 [0,4,5,10,11,12] s }
def Sh:Sp:=dW 89 [bS,bS] [] [(bA [Qf (.t 0),Qf (.t 1)],[])] 0 (.k 0)
def Si:Sp:=dW 90 [bS,jh Φ7 0 (iW 20 10),jo 34 0] [JX 100 (.t 2),wu [.wt (.p 1 10),.wt (.p 1 11)]] [(jh Φ7 0 (iW 20 8),Ma.map fun i=>JX 1000 (.p 100 i))] 1 (.k 0)
def Sj:Gu:={ cj 90 with
 an:=fun id s i=>match id,i with|1,2=>.ty 30 0|5,5=>.ty 33 0|_,_=>.no
 lp:=fun id s=>yV (.t 16) (.t 14) (.c 7 14) 33 0 [0,2,4,6,7,14,15,16] s }
def Sk:Sp:=dW 42 [] [] [(jo 28 0,[JX 100 (.t 100)])] 2 (.k 0)
def Sm:Gu:={ cj 42 with
 an:=fun id s i=>match id,i with|2,0=>.ty 34 0|5,4=>.ty 28 0|7,7=>.ty 29 0|7,19=>.ty 29 0|7,29=>.ty 29 0|7,35=>.ty 29 0|7,41=>.ty 29 0|7,48=>.ty 29 0|7,21=>.ty 34 0|7,50=>.ty 34 0|_,_=>.no
 lp:=fun id s=>yV (.t 6) (.t 4) (.t 1) 28 0 [0,1,4,5,6] s }
def oe:Sp:=dW 43 [] [] [(jo 28 0,[JX 100 (.t 100)])] 2 (.k 0)
def og:Gu:={ cj 43 with an:=fun id s i=>match id,i with|4,1=>.ty 34 0|4,4=>.ty 34 0|4,7=>.ty 34 0|4,11=>.ty 34 0|4,13=>.ty 28 0|_,_=>.no }
end Go.Rd
namespace Go.Rd
open Go.aI Go.RowKit Go.Rt
def obj:SS :=
 let p:=VD Φ7 0 (iW 20 8) ⟨9,[],[],[],[(1,1,true)],[],[],[],[],[],[],[],[]⟩
 ⟨p.2.nx,[],[.loc 2 126 (p.1++[.ref 3,.cV 4,.ref 5,.cV 6,.cV 7,.cV 8]),.ul 3 35 1,.am 4 1 2,.im 6 (.a (.len 5)),.em 7 .pair,.em 8 .str],.sl 5 39 0::p.2.ty,[(1,1,true)],[],[],[],[],[],[],[],[(1,0)]⟩
def eqs (a b:LE):List LE:=[a.sub b,b.sub a]
def kz (d k:Nat):LE:=.a (.gn d k)
def Sn (os:List SO)(ty:Option Nat)(dr:Option Nat):List SO:=os.map fun o=>match o with
 |.loc b e cs=>.loc b e (match ty,dr with|some x,some y=>vz (vz cs 17 (.ref x)) 19 (.ref y)|some x,none=>vz cs 17 (.ref x)|none,some y=>vz cs 19 (.ref y)|none,none=>cs)
 |.ul x c g=>.ul (ty.getD x) c g
 |.im b e=>(match dr with|some y=>.im b (.a (.len y))|none=>.im b e)
 |o=>o
def So (n:Nat)(os:List SO)(ty:List c6)(gs:List (Nat×Nat×Bool))(fs:List LE):SS:=⟨n,[],os,ty,gs,fs,[],[],[],[],[],[],[]⟩
def Wk (d:Nat)(s:SS):SS:=⟨s.nx,s.L,s.os,s.ty,s.gs,s.fs,s.bs,s.pw,s.ats,s.cU,s.ne,s.fz,[(d,0)]⟩
def v (t:Nat):XE:=.v (.t t)
def mK (k:Nat):XE:=.gn (.n 0) k
def sB (a b:XE):List XE:=[.sub a b,.sub b a]
def many:Int:=1073741824
def Qg:List XE:=sB (mK 2) (.len (.c 0 17))++[JX many (.c 0 17),JX many (.c 0 19)]
def Sq (l:List XR):List XE:=l.map fun x=>.sub (mK 0) (.len x)
def u7 (g:XG)(k:Nat)(e:XE)(s:SS):Option Ga:=match rG s g,rE s e with|some g,some e=>some (.aC g k e)|_,_=>none
def Sr (p:Nat)(l:List XR):List XE:=bif Nat.beq p 0 then [wu (l.map .wt)]else []
def JY (t:Nat):List XR:=Ma.map (XR.p t)
def Wl:Bl:=fun e s=>let x:=s.nx;let d:=s.nx+1;(.dC [],Wk d<|So (s.nx+2) (Sn e.os (some x) none) [] [(1,d,true)] (eqs (kz d 0) (kz 1 0)++eqs (kz d 1) (kz 1 1)++eqs (kz d 2) (.a (.len x))++[((LE.a (.len 3)).sub (.a (.len x))).bk 1]))
def Md (p:Nat):Sp:=bY 45 obj [bC (.cu 2 0),jh Φ7 0 (iW p 8)] (Qg++Sq (JY 1)++Sr p (JY 1)) [(Wl,[])] 5 (.k 0)
def Me:Gu:={ cj 45 with ac:=fun id=>match id with|3=>[u7 (.n 0) 2 (.add (.len (.c 0 17)) (.k 1))]|_=>[] }
def Wm:Bl:=fun e s=>let x:=s.nx;(.dC [],So (s.nx+1) (Sn e.os none (some x)) [.sl x 39 0] [(1,1,true)] [((LE.a (.len 5)).sub (.a (.len x))).bk 1])
def Mf (p:Nat):Sp:=bY 44 obj [bC (.cu 2 0),jh Φ7 0 (iW p 8)] (Qg++Sr p (JY 1)) [(Wm,[])] 5 (.k 0)
def Wn:Bl:=fun e s=>let p:=jh Φ7 0 (iW 20 8) e s;(p.1,So p.2.nx e.os p.2.ty [(1,1,true)] [])
def Ss:Sp:=bY 47 obj [bC (.cu 2 0),jo 8 0] (Qg++[wu [.wt (.t 1)]]) [(Wn,[])] 5 (.k 0)
def Sv:Gu:={ cj 47 with
 an:=fun id s i=>match id,i with|4,0=>.ty 34 0|_,_=>.no
 lp:=fun id s=>match id with
 |0=>yV (.t 22) (.t 20) (.c 6 12) 32 0 [0,1,4,6,20,21,22] s
 |2=>e8 (.t 66) (.len (.t 64)) [.pw (.t 64) (.v (.t 66)),.ge (.sub (.wt (.t 64)) (.pw (.t 64) (.v (.t 66)))),.sl (.c 11 7) 24 .z,.sl (.c 11 12) 32 .z,.ge (.sub (.add (.k WU) (.pw (.t 64) (.v (.t 66)))) (.len (.c 11 7))),.ge (.sub (.add (.k WU) (.pw (.t 64) (.v (.t 66)))) (.len (.c 11 12)))] [0,1,4,5,11,64,65,66] s
 |_=>none }
def Sw:Sp:=dW 93 [jh Φ7 0 (iW 0 8)] [] [(bB,[])] 0 (.k 0)
def Sx:Sp:=dW 92 [jo 8 0,bC (.fn 93)] [] [(bI,[.add (.v (.t 100)) (.k 1),.sub (.len (.t 0)) (.add (.v (.t 100)) (.k 1))])] 1 (.k 0)
def Sy:Gu:={ cj 92 with lp:=fun id s=>e8 (.t 8) (.len (.t 6)) [] [0,1,4,6,7,8] s }
def Sz:Sp :=
 let sp:=bY 46 ⟨4,[],[.am 3 1 2],[],[(1,1,true)],[((LE.a (.gn 1 2)).sub (.a (.n 2))).bk (-1)],[],[],[],[],[],[],[(1,0)]⟩ [jh Φ7 0 (iW 20 8),jh Φ7 0 (iW 0 8)] (wu (Ma.map fun i=>.wt (.p 1 i))::.sub (.k many) (mK 0)::Sq (JY 0))
  [(fun e s=>let p:=L7 Φ7 0 (iW 20 8) [(5,Qf (.p 0 5))] e s;let d:=p.2.nx;(p.1,⟨d+1,[],[],p.2.ty,[(1,d,true)],eqs (kz d 1) (kz 1 1)++eqs (kz d 2) (kz 1 2),[],[],(match rC e (.p 0 5)with|some x=>[(d,x,.a (.n 2))]|none=>[]),[],[],[],[]⟩),[])] 5 (.k 0)
 let L:=rR 0 sp.ar
 let nm:=(rC (EH sp.pre L) (.p 0 5)).getD .ab
 let sm (t:Nat):LE:=(Ma.filterMap fun i=>rE (EH sp.pre L) (.wt (.p t i))).foldl LE.add (.k 0)
 ⟨46,⟨sp.pre.nx,[],sp.pre.os,sp.pre.ty,sp.pre.gs,sp.pre.fs,[],[],[(1,nm,.a (.n 2))],[],[],[],[(1,0)]⟩,sp.ar,sp.fR.map fun q =>
  let d:=q.2.nx-1
  let ls:=Ma.filterMap fun i=>match q.1 with|.v _ cs=>(match cs[i]? with|some (.ref y)=>some ((kz d 0).sub (.a (.len y)))|_=>none)|_=>none
  (q.1,⟨q.2.nx,[],[.am 3 1 2],q.2.ty,q.2.gs,eqs (kz d 0) ((kz 1 0).add (sm 1))++ls++q.2.fs,[],[],q.2.ats,[],[],[],[(d,0)]⟩),5,.k 0⟩
def SD:Gu:={ cj 46 with ac:=fun id=>match id with|9=>[u7 (.n 0) 0 (.add (mK 0) ((JY 1).foldl (fun e x=>.add e (.wt x)) (.k 0)))]|_=>[] }
def TQ:SS:=⟨3,[],[],[.pt 2 37 1],[(1,1,false)],[],[],[],[],[],[],[1],[]⟩
def JZ:SS:=⟨3,[],[],[.pt 2 37 1],[(1,1,false)],[],[],[],[],[],[],[],[]⟩
def VM:Bl:=fun e s=>(.dC [],So s.nx [] [] [] [])
def SE:Sp:=bY 94 TQ [bC (.ref 2),bS,bS,bI] [] [(VM,[])] 0 (.k 0)
def SF:Gu:={ cj 94 with an:=fun id s i=>match id,i with|2,0=>.ty 43 0|_,_=>.no }
def SG:Sp:=bY 95 JZ [bC (.ref 2),bS] [] [(bI,[])] 0 (.k 0)
def SH:Sp:=bY 48 TQ [bC (.ref 2)] [] [(VM,[])] 1 (.k 0)
def SI:Gu:={ cj 48 with lp:=fun id s=>match id with
 |0=>e8 (.t 17) (.len (.t 15)) [] [0,15,16,17] s
 |2=>e8 (.t 25) (.len (.t 23)) [] [0,15,16,17,2,3,23,24,25] s
 |5=>e8 (.t 70) (.len (.t 68)) [] [0,15,16,17,2,3,68,69,70] s
 |7=>e8 (.t 92) (.len (.t 90)) [] [0,15,16,17,2,3,90,91,92] s
 |_=>none }
def VN:Bl:=fun e s=>(sc (.ref (s.nx+2)),⟨s.nx+3,[],[],[.pt (s.nx+2) 37 (s.nx+1)],[(s.nx+1,s.nx+1,false)],[],[],[],[],[],[],[s.nx+1],[]⟩)
def Mg:Sp:=dW 10 [jo 8 0] [wu [.wt (.t 0)]] [(VN,[])] 6 (.k 0)
def SJ (ns:List (Nat×XE))(b:XR)(k:Nat)(s:SS):Option Ga:=match rC s b with|some (.cV b)=>some (.LN (ns.filterMap fun p=>(rE s p.2).map fun e=>(p.1,e)) 0 b k)|_=>none
def SK (g:XG)(x:XR)(cc:Nat)(s:SS):Option Ga:=match rG s g,rC s x with|some g,some (.ref y)=>some (.P0 g y cc)|_,_=>none
def BA (g:XG)(x:XR)(cc:Nat)(s:SS):Option Ga:=match rG s g,rC s x with|some g,some (.cV b)=>some (.P2 b cc g)|_,_=>none
def NI (g:XG)(x:XR)(cc:Nat)(s:SS):Option Ga:=match rG s g,rC s x with|some g,some (.cu b _)=>some (.P1 b cc g)|_,_=>none
def Mh (l:List XE):List Gn:=l.map Gn.ge
def Mi:Gu:={ cj 10 with
 an:=fun id s i=>match id,i with|1,0=>.em .str|1,1=>.im|1,2=>.em .pair|1,3=>.em .str|3,0=>.im|4,0=>.im|_,_=>.no
 ac:=fun id=>match id with
  |2=>[SJ [(0,.k WU),(1,.k 0),(2,.k 0)] (.c 3 18) 2]
  |47=>[u7 (.n 0) 1 (.len (.c 3 19)),SK (.n 0) (.c 3 17) 36,BA .z (.c 3 22) 42,BA (.n 0) (.c 3 21) 41,BA (.n 0) (.c 3 20) 40,BA (.n 0) (.c 3 18) 38,NI (.n 0) (.t 3) 37]
  |_=>[]
 lp:=fun id s=>match id with
 |0=>e8 (.t 40) (.len (.t 38)) [.im (.t 6) (.v (.t 40))] [0,3,4,5,6,7,38,39,40] s
 |2=>e8 (.t 52) (.len (.t 50)) [.im (.t 7) (.v (.t 52))] [0,3,4,5,6,7,50,51,52] s
 |4=>e8 (.t 64) (.len (.t 62)) ([.Ki (.n 0),.ul (.c 3 17) 35 (.n 0),.sl (.c 3 19) 39 .z,.im (.c 3 20) (.len (.c 3 19))]++Mh (sB (mK 0) (.k WU)++sB (mK 1) (.k 0)++sB (mK 2) (.len (.c 3 17))++[.sub (.v (.t 64)) (.len (.c 3 17)),.sub (.v (.t 64)) (.len (.c 3 19))])) [0,3,4,5,6,7,62,63,64] s
 |7=>e8 (.t 113) (.len (.t 111)) ([.Ki (.n 0),.ul (.c 3 17) 35 (.n 0)]++Mh (sB (mK 0) (.k WU)++sB (mK 1) (.k 0)++sB (mK 2) (.len (.c 3 17))++[.sub (.add (.k WU) (.v (.t 113))) (.len (.c 3 17))])) [0,3,4,5,6,7,111,112,113] s
 |9=>e8 (.t 123) (.len (.t 121)) ([.sl (.c 3 19) 39 .z,.im (.c 3 20) (.len (.c 3 19))]++[.ge (.sub (.add (.k WU) (.v (.t 123))) (.len (.c 3 19)))]) [0,3,4,5,6,7,121,122,123] s
 |11=>e8 (.t 133) (.len (.t 131)) ([.pw (.t 131) (.v (.t 133)),.ge (.sub (.wt (.t 131)) (.pw (.t 131) (.v (.t 133)))),.Ki (.n 0)]++Mh (.sub (.add (.k WU) (.pw (.t 131) (.v (.t 133)))) (mK 0)::sB (mK 1) (.k 0)++sB (mK 2) (.len (.c 3 17)))) [0,3,4,5,6,7,131,132,133] s
 |_=>none }
def J0:Sp:=dW 122 [bC .dY] [] [(VN,[])] 7 (.k 0)
def NJ:Sp:=bY 122 JZ [bC (.ref 2)] [] [(fun e s=>(sc (.ref 2),So s.nx [] [] [] []),[])] 7 (.k 0)
end Go.Rd
namespace Go.Rd
open Go.aI Go.RowKit Go.Rt
def Mj (tp:Bool):SS×Bl:=bif tp then (JZ,bC (.ref 2))else (RW 0,bC .dY)
def SL (f:Nat)(tp:Bool)(ar:List Bl)(post:Bl)(str:Nat):Sp:=bY f (Mj tp).1 ((Mj tp).2::ar) [] [(post,[])] str (.k 0)
def Mk (tp:Bool):Sp:=SL 61 tp [bI] bS 8
def Ml:Gu:={ cj 61 with lp:=fun id s=>e8 (.t 14) (.len (.t 12)) [] [0,1,4,12,13,14] s }
def Mm (tp:Bool):Sp:=SL 65 tp [bS] (bT [jh Φ7 0 (iW 20 8),bB]) 8
def EP (tp:Bool):Sp:=SL 155 tp [bS] (bT [jh Φ7 0 (iW 20 8),bB]) 8
def ER (tp:Bool):Sp:=SL 154 tp [bS] bB 8
def ES (tp:Bool):Sp:=SL 157 tp [bS,bS] (bT [jh Φ7 0 (iW 20 9),bB]) 9
def ET:Gu:={ cj 157 with an:=fun id s i=>match id,i with|11,3=>.ty 30 0|_,_=>.no }
def Mn:Bl:=bA [bS,bS]
def Wo:Bl:=fun _ s=>(sc (.int .u8 (.a (.z s.nx))),aC s)
def tt:SC:=.bool (.k true)
def ff:SC:=.bool (.k false)
def NK:Sp:=dW 449 [Mn] [] [(bC (.int .u8 (.k 0)),[]),(Wo,[.sub (.Qa (.p 0 1)) (.k 1)])] 0 (.k 0)
def NL:Sp:=dW 450 [Mn] [.sub (.Qa (.p 0 1)) (.k 1)] [(Mn,[.sub (.sub (.Qa (.p 0 1)) (.k 1)) (.Qa (.p 100 1))])] 0 (.k 0)
def UY (s:SS):SV->Option LE
 |.dC ((_,[_,.str y])::_)=>some (.a (.sl y))
 |.dC ((_,[_,.mF l _])::_)=>some (.k l)
 |_=>none
def J1 (d:Int)(b:Bl):Bl:=fun e s=>let p:=bT [Mn,b] e s;(p.1,match UY p.2 p.1,rE e (.Qa (.p 0 1))with|some x,some y=>aP p.2 ((y.sub x).bk (-d))|_,_=>p.2)
def NM:Sp:=dW 345 [Mn] [] [(J1 0 bB,[])] 1 (.k 0)
def NN:Sp:=dW 346 [Mn] [] [(J1 1 (bC tt),[]),(J1 0 (bC ff),[])] 1 (.k 0)
def Qh (f c fn p str:Nat)(ms:XE):Sp:=dW f [jo (p+c) 0,bC (.fn fn)] [] [(jo (60+c) 0,[NH (.t 100) (.t 0),Dn (.t 100) (.t 0),Dn (.t 0) (.t 100)])] str ms
def qQ (f c:Nat):Gu:={ cj f with lp:=fun id s=>e8 (.t 10) (.len (.t 8)) [.pw (.t 8) (.v (.t 10)),.ge (.sub (.wt (.t 8)) (.pw (.t 8) (.v (.t 10)))),.iF (.t 5) (60+c),.ge (.sub (.pw (.t 8) (.v (.t 10))) (.wt (.t 5))),.ge (.sub (.v (.t 10)) (.len (.t 5))),.ge (.sub (.len (.t 5)) (.v (.t 10)))] [0,1,4,5,8,9,10] s }
def BB (l:List Nat):List XE:=l.map fun i=>NH (.p 100 i) (.p 0 i)
def Mo (p:Nat):Sp:=dW 53 [jh Φ7 0 (iW p 1)] [] [(jh Φ7 0 (iW 60 1),BB [3,4])] 0 (.add (.k 1) (.mul 3 (.add (.wt (.p 0 3)) (.wt (.p 0 4)))))
def EU (p:Nat):Sp:=dW 109 [jh Φ7 0 (iW p 2)] [] [(jh Φ7 0 (iW 60 2),BB [4,5])] 0 (.add (.k 2) (.mul 3 (.add (.wt (.p 0 4)) (.wt (.p 0 5)))))
def EV (p:Nat):Sp:=Qh 107 1 53 p 0 (.mul 3 (.wt (.t 0)))
def EW (p:Nat):Sp:=Qh 108 2 109 p 0 (.mul 3 (.wt (.t 0)))
def EX (p:Nat):Sp:=dW 111 [jh Φ7 0 (iW p 3)] [] [(jh Φ7 0 (iW 60 3),BB [4,5])] 1 (.k 0)
def EY (p:Nat):Sp:=Qh 110 3 111 p 2 (.k 0)
def VO (f c p str:Nat):Sp:=dW f [jo (p+c) 0] [] [(jo (60+c) 0,[NH (.t 100) (.t 0),Dn (.t 100) (.t 0)])] str (.k 0)
def Mp (p:Nat):Sp:=VO 54 3 p 3
def EZ (p:Nat):Sp:=dW 153 [jh Φ7 0 (iW p 4)] [] [(jh Φ7 0 (iW 60 4),BB [1])] 4 (.k 0)
def E0 (p:Nat):Sp:=Qh 152 4 153 p 5 (.k 0)
def E3 (p:Nat):Sp:=VO 100 4 p 6
def E4 (p:Nat):Sp:=dW 102 [jh Φ7 0 (iW p 5)] [] [(jh Φ7 0 (iW 60 5),BB [4,5,6])] 7 (.add (.k 1) (.mul 2 (.wt (.p 0 6))))
def E5 (p:Nat):Sp:=Qh 101 5 102 p 7 (.mul 2 (.wt (.t 0)))
def Mq (p:Nat):Sp:=dW 99 [jh Φ7 0 (iW p 7)] [] [(jh Φ7 0 (iW 60 7),BB [7,8,11])] 7 (.k 0)
def Mr (p:Nat):Sp:=Qh 98 7 99 p 8 (.k 0)
def Ms (p:Nat):Sp:=dW 97 [jh Φ7 0 (iW p 6)] [] [(jh Φ7 0 (iW 60 6),BB [4,5,6])] 9 (.k 0)
def Mt (p:Nat):Sp:=Qh 96 6 97 p 10 (.k 0)
def Mu (p:Nat):Sp:=dW 49 [jh Φ7 0 [.sl (p+6)]] [] [(jh Φ7 0 [.sl 66],[NH (.p 100 0) (.p 0 0),Dn (.p 100 0) (.p 0 0),Dn (.p 0 0) (.p 100 0)])] 11 (.k 0)
end Go.Rd
namespace Go.Rd
open Go.aI Go.RowKit Go.Rt
def SM (tp:Bool):Nat:=bif tp then 5 else 2
def QL (tp:Bool):SS:=let o:=SM tp
 ⟨o+8,[],[.loc o 134 [bif tp then .ref 4 else .dY,.ref (o+1),.ref (o+2),.ref (o+3),.ref (o+4),.ref (o+5),.ref (o+6),.cV (o+7),.ab],.am (o+7) 1 0],
  [.sl (o+2) 80 1,.sl (o+3) 82 1,.sl (o+4) 85 0,.sl (o+5) 86 0,.sl (o+6) 87 0]++(bif tp then [.pt 4 37 3]else []),(1,1,false)::(bif tp then [(3,3,false)]else []),[],[],[],[],[],[],[],[]⟩
def UZ:Nat->Nat|2=>80|3=>82|4=>85|5=>86|6=>87|_=>0
def SN (os:List SO)(i:Nat)(x:SC):List SO:=os.map fun o=>match o with|.loc b e cs=>.loc b e (vz cs i x)|o=>o
def GP (val:Bl)(ch:List (Nat×XE)):Bl:=fun e s =>
 let p:=val e s
 let r:=ch.foldl (fun (a:List SO×SS) q =>
  let x:=a.2.nx
  let s1:=aY (aC a.2) (.sl x (UZ q.1) (bif Nat.beq q.1 2||Nat.beq q.1 3 then 1 else 0))
  let s2:=match rE e (.add (.len (.c 0 q.1)) q.2)with|some m=>aP s1 (m.sub (.a (.len x)))|none=>s1
  let s3:=bif Nat.beq q.1 2 then (match rE e (.len (.c 0 q.1))with|some m=>aP s2 ((LE.a (.len x)).sub m)|none=>s2)else s2
  (SN a.1 q.1 (.ref x),s3)) (e.os,p.2)
 (p.1,dm r.2 r.1)
def SP (tp:Bool):SS:=let s:=QL tp;⟨s.nx,s.L,s.os,s.ty,(1,1,true)::(bif tp then [(3,3,false)]else []),[(LE.a (.len (SM tp+2))).sub (kz 1 2)],[],[],[],[],[],bif tp then [3]else [],[(1,bif tp then 3 else 0)]⟩
def U0:List SO->Option Nat
 |.loc _ _ (_::_::.ref y::_)::_=>some y
 |_=>none
def NO (val:Bl)(ch:List (Nat×XE)):Bl:=fun e s =>
 let p:=GP val ch e s
 let x:=p.2.nx
 let s1:=aC p.2
 (p.1,⟨s1.nx,s1.L,s1.os,s1.ty,(1,x,true)::s1.gs,eqs (kz x 0) (kz 1 0)++eqs (kz x 1) (kz 1 1)++eqs (kz x 3) (kz 1 3)++eqs (kz x 5) (kz 1 5)++[(kz x 2).sub (kz 1 2)]++(match U0 s1.os with|some y=>[(LE.a (.len y)).sub (kz x 2)]|none=>[])++s1.fs,s1.bs,s1.pw,s1.ats,s1.cU,s1.ne,s1.fz,(x,match e.sb with|p::_=>p.2| []=>0)::s1.sb⟩)
def fits (l:List Nat)(w:XE):List XE:=l.map fun i=>.sub (.k 1048576) (.add (.len (.c 0 i)) w)
def Qi (tp:Bool):Bl:=bC (.cu (SM tp) 0)
def Qj (tp:Bool)(l:List Nat)(w:XE):List Gn:=l.flatMap fun i=>[.sl (.c 0 i) (UZ i) (bif Nat.beq i 2||Nat.beq i 3 then .r (.c 0 2)else .z),.ge (.sub (.add (.raw (.a (.len (SM tp+i)))) w) (.len (.c 0 i)))]++(bif Nat.beq i 2 then [.ge (.sub (.len (.c 0 i)) (.raw (.a (.len (SM tp+i)))))]else [])
def NP (x i:XR):List Gn:=[.pw x (.v i),.ge (.sub (.wt x) (.pw x (.v i)))]
def NQ:Sp:=dW 218 [jo 30 0,bS] [] [(bT [jh Φ7 0 (iW 20 10),bB],[])] 0 (.k 0)
def NR:Gu:={ cj 218 with lp:=fun id s=>e8 (.t 10) (.len (.t 8)) [] [0,1,4,8,9,10] s }
def E6 (tp:Bool):Sp:=bY 103 (QL tp) [Qi tp,Mn,bB] [] [(GP (bT [Mn,bB]) [],[])] 9 (.k 0)
def E7 (tp:Bool):Sp:=bY 105 (QL tp) [Qi tp,bS] [] [(GP bS [],[])] 9 (.k 0)
def Qk:XE:=.add (.wt (.p 2 3)) (.wt (.p 2 4))
def TR:Bl:=fun _ s=>(.dC [],s)
def sD (tp:Bool):Sp:=bY 219 (QL tp) [Qi tp,bI,jh Φ7 0 (iW 60 1),Mn,bB,bB] (fits [4] (.add (.k 1) Qk)) [(GP TR [(4,.add (.k 1) Qk)],[])] 10 Qk
def sF (tp:Bool):Gu:={ cj 219 with
 un:=fun id=>match id with|0=>1|_=>0
 lp:=fun id s=>match id with
 |0=>Bx [.str (.c 12 0),.str (.c 12 1),.str (.c 14 0),.str (.c 14 1),.bool (.t 15),.bE [0,1,4,5,8,9,12,14,15]] (.Qa (.c 14 1)) s
 |2=>e8 (.t 89) (.len (.t 87)) (NP (.t 87) (.t 89)++Qj tp [4] (.pw (.t 87) (.v (.t 89)))) [0,1,4,5,8,14,15,16,17,87,88,89] s
 |4=>e8 (.t 106) (.len (.t 104)) (NP (.t 104) (.t 106)++Qj tp [4] (.add (.wt (.c 8 3)) (.pw (.t 104) (.v (.t 106))))) [0,1,4,8,16,104,105,106] s
 |_=>none }
def E8 (tp:Bool):Sp:=bY 156 (QL tp) [Qi tp,bI,jo 63 0,jo 30 0] (fits [4,5] (.wt (.t 2))) [(GP TR [(4,.wt (.t 2)),(5,.wt (.t 2))],[])] 11 (.k 0)
def E9 (tp:Bool):Gu:={ cj 156 with lp:=fun id s=>e8 (.t 17) (.len (.t 15)) (NP (.t 15) (.t 17)++Qj tp [4,5] (.pw (.t 15) (.v (.t 17)))) [0,1,3,15,16,17] s }
def Fa (tp:Bool):Sp:=bY 104 (QL tp) [Qi tp,bI,bI,bS,jo 64 0] (fits [4,5,6] (.wt (.t 4))) [(GP TR [(4,.wt (.t 4)),(5,.wt (.t 4)),(6,.wt (.t 4))],[])] 12 (.k 0)
def Fb (tp:Bool):Gu:={ cj 104 with lp:=fun id s=>e8 (.t 16) (.len (.t 14)) (NP (.t 14) (.t 16)++Qj tp [4,5,6] (.pw (.t 14) (.v (.t 16)))) [0,1,2,3,14,15,16] s }
def VP:List XE:=[.v (.t 1),.sub (mK 0) (.add (.v (.t 1)) (.k 1))]
def qN (tp:Bool):Sp:=bY 106 (SP tp) [Qi tp,bI,bI,bS,jo 65 0] (VP++.sub (.k 2000) (.wt (.t 4))::fits [2,4,5,6] (.wt (.t 4))) [(NO (jo 81 1) [(2,.wt (.t 4)),(4,.wt (.t 4)),(5,.wt (.t 4)),(6,.wt (.t 4))],[Dn (.t 100) (.t 4),NH (.t 100) (.t 4)])] 13 (.wt (.t 4))
def gN (k:Nat):XE:=.gn (.r (.c 0 2)) k
def U1:List Gn:=.Ki (.r (.c 0 2))::Mh (sB (gN 0) (.raw (kz 1 0))++sB (gN 1) (.raw (kz 1 1))++sB (gN 3) (.raw (kz 1 3))++sB (gN 5) (.raw (kz 1 5))++[.sub (gN 2) (.raw (kz 1 2))])
def Wp:List Gn:=[.ge (.sub (.len (.c 0 2)) (gN 2))]
def Ql (g:XG)(a e:XE)(x:XR)(s:SS):Option Ga:=match rG s g,rE s a,rE s e,rC s x with|some g,some a,some e,some x=>some (.JK g a e x)|_,_,_,_=>none
def qO (tp:Bool):Gu:={ cj 106 with
 ac:=fun id=>match id with|6=>[Ql (.r (.c 0 2)) (v 14) (.sub (.pw (.t 20) (.add (v 22) (.k 1))) (.add (.pw (.t 20) (v 22)) (.k 1))) (.c 13 2)]|_=>[]
 jn:=fun id s=>match id with
 |2=>Qe ([.str (.c 15 3),.str (.c 15 7),.str (.c 15 8),.bool (.c 15 9),.str (.t 16),.str (.t 17)]++Qj tp [4,5] (.add (.pw (.t 20) (.v (.t 22))) (.wt (.c 13 4)))++[.bE [0,1,2,3,10,11,13,14,15,16,17,20,21,22]]) s
 |_=>none
 lp:=fun id s=>e8 (.t 22) (.len (.t 20)) (U1++NP (.t 20) (.t 22)++Qj tp [2,4,5,6] (.pw (.t 20) (.v (.t 22)))++Wp++[.VC (.t 11) 81 (.r (.c 0 2)),.ge (.sub (.v (.t 22)) (.len (.t 11))),.ge (.sub (.pw (.t 20) (.v (.t 22))) (.wt (.t 11)))]) [0,1,2,3,10,11,20,21,22] s }
def QM:XE:=.add (.wt (.p 2 4)) (.add (.wt (.p 2 5)) (.wt (.p 2 6)))
def Mv (tp:Bool):Sp:=bY 50 (SP tp) [Qi tp,bI,jh Φ7 0 (iW 60 6)] (VP++.sub (.k 2000) QM::fits [2,4,5,6] QM++fits [3] (.k 1)) [(NO TR [(2,QM),(3,.k 1),(4,QM),(5,QM),(6,QM)],[])] 14 (.k 0)
def Mw (tp:Bool):Gu:={ cj 50 with lp:=fun id s=>e8 (.t 15) (.len (.t 13)) (NP (.t 13) (.t 15)++Qj tp [4,5,6] (.pw (.t 13) (.v (.t 15)))) [0,1,5,13,14,15] s }
def Wq:Bl:=fun e s=>let d:=s.nx+1;(sc (.ref (s.nx+2)),⟨s.nx+3,[],[],[.pt (s.nx+2) 89 (s.nx+1)],[(s.nx+1,d,false)],[(LE.k 2000).sub (.a (.gn d 0)),(LE.k 2000).sub (.a (.gn d 1)),(LE.k 2000).sub (.a (.gn d 2)),(LE.k 2000).sub (.a (.gn d 5))],[],[],[],[],[],[d],[]⟩)
def Mx (tp:Bool):Sp:=bY 11 (bif tp then TQ else RW 0) [bC (bif tp then .ref 2 else .dY),jh Φ7 0 [.sl 6]] [.sub (.k 1500) (.wt (.p 1 0))] [(Wq,[])] 15 (.k 0)
def SQ (ns:List (Nat×XE))(sub:XG)(s:SS):Option Ga:=(rG s sub).map fun g=>.new (ns.filterMap fun p=>(rE s p.2).map fun e=>(p.1,e)) g
def SR (ns:List (Nat×XE))(sub:XG)(b:XR)(k:Nat)(s:SS):Option Ga:=match rC s b,rG s sub with|some (.cV b),some g=>some (.LN (ns.filterMap fun p=>(rE s p.2).map fun e=>(p.1,e)) g b k)|_,_=>none
def U2 (g:XG)(s:SS):Option Ga:=(rG s g).map .UP
def NS (w:XE)(i:Nat):List Gn:=[.sl (.c 5 i) (UZ i) (bif Nat.beq i 2||Nat.beq i 3 then .n 0 else .z),.ge (.sub w (.len (.c 5 i)))]
def My (tp:Bool):Gu:={ cj 11 with
 dr:=fun id=>match id with|20=>[0,1,2,3,4,5,6,7,8,9,10,11,12,14,17]|id=>VI 11 id
 an:=fun id s i=>match id,i with|1,3=>.em .str|14,7=>(match rG s (.n 0)with|some g=>.ty 83 g|none=>.no)|_,_=>.no
 ac:=fun id=>match id with
  |2=>[SR [(0,.len (.c 5 1)),(1,.k 0),(2,.k 0),(3,.k 0),(5,.k 0)] (bif tp then .r (.c 5 0)else .z) (.c 5 7) 0]
  |22=>[u7 (.n 0) 2 (.len (.c 5 2)),u7 (.n 0) 3 (.len (.c 5 3)),U2 (.n 0),BA (.n 0) (.c 5 7) 88,NI (.n 0) (.t 5) 89]
  |_=>[]
 a2:=fun id op=>match id,op with|20,18=>[u7 (.n 0) 1 (.add (.v (.t 89)) (.k 1))]|_,_=>[]
 lp:=fun id s=>match id with
 |0=>e8 (.t 28) (.len (.t 26)) ([.Ki (.n 0)]++Mh (sB (mK 0) (.len (.c 5 1))++sB (mK 1) (.k 0)++sB (mK 2) (.k 0)++sB (mK 3) (.k 0)++[.sub (v 28) (mK 5)])) [4,5,26,27,28] s
 |2=>e8 (.t 64) (.len (.t 62)) ([.Ki (.n 0)]++Mh (sB (mK 0) (.len (.c 5 1))++sB (mK 1) (.k 0)++sB (mK 3) (.k 0)++[.sub (.len (.c 5 1)) (mK 5)])++NP (.t 62) (.t 64)++NS (.v (.t 64)) 3++[2,4,5,6].flatMap (NS (.pw (.t 62) (.v (.t 64))))++[.ge (.sub (.len (.c 5 2)) (mK 2))]) [4,5,62,63,64] s
 |4=>e8 (.t 89) (.len (.t 87)) ([.Ki (.n 0)]++Mh (sB (mK 0) (.len (.c 5 8))++[.sub (.len (.c 5 2)) (mK 2)]++sB (mK 3) (.k 0)++[.sub (.v (.t 89)) (mK 1),.sub (.len (.c 5 8)) (mK 5)])) [4,5,87,88,89] s
 |_=>none }
end Go.Rd
namespace Go.Rd
open Go.aI Go.RowKit Go.Rt
def SU:SS:=⟨3,[],[],[.pt 2 89 1],[(1,1,false)],[(LE.k 2000).sub (.a (.gn 1 0)),(LE.k 2000).sub (.a (.gn 1 1)),(LE.k 2000).sub (.a (.gn 1 2)),(LE.k 2000).sub (.a (.gn 1 5))],[],[],[],[],[],[1],[]⟩
def SW (f:Nat)(ar:List Bl)(fR:List (Bl×List XE))(str:Nat):Sp:=bY f SU (bC (.ref 2)::ar) [] fR str (.k 0)
def SX:Sp:=SW 13 [] [(jh Φ7 0 [.sl 66],sB (.len (.p 100 0)) (.raw (kz 1 0)))] 16
def NT:Sp:=bY 55 (U3 ) [jo 84 1] [] [(jo 84 1,[Dn (.t 100) (.t 0)])] 0 (.k 0)
 where U3:SS:=⟨2,[],[],[],[(1,1,false)],[],[],[],[],[],[],[],[]⟩
def SY:Sp:=bY 55 NT.U3 [jo 81 1] [] [(jo 81 1,[Dn (.t 100) (.t 0),NH (.t 100) (.t 0)])] 0 (.k 0)
def SZ:Gu:={ cj 55 with an:=fun id s i=>match id,i with|3,0=>.ty 81 1|_,_=>.no }
def S0:Sp:=bY 51 NT.U3 [jh Φ7 1 (R1 80)] [] [(L7 Φ7 1 (R1 80) [(4,Qf (.p 0 4))],Dn (.p 100 12) (.p 0 12)::BB [10,11,12])] 12 (.k 0)
def S3:Sp:=SW 14 [] [(jo 80 1,sB (.len (.t 100)) (.raw (kz 1 2)))] 16
def S4:Gu:={ cj 14 with lp:=fun id s=>e8 (.t 13) (.len (.t 11)) [.sl (.t 3) 80 (.r (.t 11)),.ge (.sub (.v (.t 13)) (.len (.t 3))),.ge (.sub (.len (.t 3)) (.v (.t 13)))] [0,2,3,11,12,13] s }
def S5:Sp:=SW 18 [bI] [(bT [jh Φ7 1 (c9 (R1 80) 0 i64),bB],[])] 16
def S6:Sp:=SW 19 [bI] [(jo 81 1,[.sub (.k 2000) (.wt (.t 100))])] 16
def S7:Sp:=SW 21 [bS] [(bT [bN,bC tt],[.sub (.raw (kz 1 0)) (.add (.v (.p 100 0)) (.k 1))]),(bT [bI,bC ff],[])] 16
end Go.Rd
namespace Go.Rd
open Go.aI Go.RowKit Go.Rt
def Wr (f:Nat):Nat->List Nat:=fun r=>match f with
 |4=>(match r with|28=>[0,1,2,3,4,5,6,7]|_=>[])
 |23=>(match r with|5=>[0,1,2,3,4,5]|7=>[0,1,2,3,4,5]|9=>[0,1,2,3,4,5,6,7,9,10]|10=>[0,1,2,4,5]|_=>[])
 |63=>(match r with|4=>[0,1,2,3,4,5,6,7]|_=>[])
 |64=>(match r with|5=>[0,1,2,4]|_=>[])
 |125=>(match r with|0=>[0,1,2,3,4,5,6,7,9,10,11]|1=>[0,1,2,3,4,5,6,8,9]|_=>[])
 |126=>(match r with|0=>[0,1,2,3,4,5,6,7,9,10,11]|2=>[0,1,2,3,4,5,6,7,8]|3=>[0,1,2,3,4,5,6,7,8,9,10,12,13,14]|6=>[0,1,2,3,4,5,6,7,8,9,10,11]|_=>[])
 |127=>(match r with|0=>[0,1,2,3,4,5,6,7,8,9,10,11,12,13,14,15,16,17,18,19,20,22]|_=>[])
 |197=>(match r with|9=>[0,1,2,3,4,5,6,7,8]|_=>[])
 |199=>(match r with|9=>[0,1,2,3,4,5,6,7,8,9]|_=>[])
 |200=>(match r with|7=>[0,1,2,3,4,5,6,7,8,9,10]|11=>[0,1,2,3,4,5,6,7,8,9,10,11,12,13]|_=>[])
 |_=>[]
def kC (f:Nat):Gu:={ JS with dr:=Wr f }
def wO (b:Bl):Bl:=fun e s=>let p:=b e s;(p.1,dm p.2 e.os)
def GQ (tp:Bool):Nat:=bif tp then 11 else 8
def J2 (d:Nat):List LE:=[(LE.k 2000).sub (kz d 0),(LE.k 2000).sub (kz d 1),(LE.k 2000).sub (kz d 2),(LE.k 2000).sub (kz d 5)]
def S8 (tp:Bool):List SO:=[.loc 7 159 [bif tp then .ref 10 else .dY,.ref 2,.ref 3,.cV 4,.str 5,.ref 6],.im 4 (.k 2)]
def S9 (tp:Bool):List c6:=[.pt 2 89 1,.sl 3 80 1,.sl 6 81 1]++(bif tp then [.pt 10 37 9]else [])
def Ta (tp:Bool):List (Nat×Nat×Bool):=(1,1,false)::(bif tp then [(9,9,false)]else [])
def Tb:List LE:=J2 1++eqs (.a (.len 3)) (kz 1 2)++[(LE.k 2000).sub (.a (.wt 6))]
def Tc (tp:Bool):List Nat:=1::(bif tp then [9]else [])
def QN (tp:Bool):SS:=⟨GQ tp,[],S8 tp,S9 tp,Ta tp,Tb,[],[],[],[],[],Tc tp,[]⟩
def QO:Bl:=bC (.cu 7 0)
def NU:Sp:=let sp:=bY 21 ⟨4,[],[],SU.ty,SU.gs,SU.fs,[],[],[(1,.str 3,.k (-1))],[],[],SU.fz,[]⟩ [bC (.ref 2),bC (.str 3)] [] [(bT [bI,bC ff],[])] 16 (.k 0)
 sp
def U4 (f:Nat):SV:=.ve f [] [.cu 1 0]
def Qm (f:Nat):Bl:=fun _ s=>(U4 f,s)
def Td:SS:=⟨2,[],[.loc 1 9 [.str 0]],[],[],[],[],[],[],[],[],[],[]⟩
def NV:Sp:=bY 320 Td [jh Φ7 0 (iW 60 4),bC (.cu 1 0)] [] [(wO bB,[])] 0 (.k 0)
def Te:List (Bl×List XE):=[(wO bI,[.add (.v (.t 100)) (.k 1),.sub (.len (.t 0)) (.add (.v (.t 100)) (.k 1))])]
def NW:Sp:=bY 319 Td [jo 64 0,Qm 320] [] Te 1 (.k 0)
def NX:Gu:={ kC 319 with lp:=fun id s=>e8 (.t 8) (.len (.t 6)) [] [0,1,6,7,8] s }
def NY:Sp:=bY 322 Td [jh Φ7 0 (iW 20 13),bC (.cu 1 0)] [] [(wO bB,[])] 0 (.k 0)
def NZ:Sp:=bY 432 Td [jo 33 0,Qm 322] [] Te 1 (.k 0)
def N0:Gu:={ kC 432 with lp:=fun id s=>e8 (.t 8) (.len (.t 6)) [] [0,1,6,7,8] s }
def N1:Sp:=bY 321 Td [jo 33 0,Qm 322] [] [(wO bB,[])] 2 (.k 0)
def N2:Sp:=bY 95 ⟨4,[],[],JZ.ty,JZ.gs,[],[],[],[(1,.str 3,.k (-1))],[],[],[],[]⟩ [bC (.ref 2),bC (.str 3)] [] [(bC (.int .i64 (.k 0)),[])] 0 (.k 0)
def Ws (g:XG)(x:XR)(s:SS):Option Ga:=match rG s g,rC s x with
 |some g,some x=>(match ghost s.gs g with|some d=>(match sX s.ats d x with|some _=>none|none=>some (.at_ g x))|none=>none)
 |_,_=>none
def Fc:Gu:={ kC 200 with ac:=fun id=>match id with|2=>[Ws (.r (.t 0)) (.t 1)]|_=>[] }
def Fe (tp:Bool):Sp:=bY 200 (Mj tp).1 [(Mj tp).2,bS,bS] [] [(bB,[])] 8 (.k 0)
def N3:Sp:=dW 55 [jo 107 0] [] [(jo 107 0,[Dn (.t 100) (.t 0)])] 0 (.k 0)
def N4:Gu:={ kC 55 with an:=fun id s i=>match id,i with|3,0=>.ty 107 0|_,_=>.no }
def Tf:Sp:=dW 60 [jo 15 0] [] [(fun e s=>(.ve 121 [] [.cu s.nx 0],⟨s.nx+1,[],[.loc s.nx 59 [(rC e (.t 0)).getD .ab]],[],[],[],[],[],[],[],[],[],[]⟩),[])] 0 (.k 0)
def U5:Bl:=fun e s=>let x:=s.nx;(.cu (x+7) 0 |> sc,⟨x+8,[],[.loc (x+7) 159 [(rC e (.t 0)).getD .dY,.ref (x+2),.ref (x+3),.cV (x+4),.str (x+5),.ref (x+6)],.im (x+4) (.k 2)],[.pt (x+2) 89 (x+1),.sl (x+3) 80 (x+1),.sl (x+6) 81 (x+1)],[(x+1,x+1,false)],J2 (x+1)++eqs (.a (.len (x+3))) (kz (x+1) 2)++[(LE.k 2000).sub (.a (.wt (x+6)))],[],[],[],[],[],[x+1],[]⟩)
def Mz (tp:Bool):Sp:=bY 23 (bif tp then TQ else RW 0) [bC (bif tp then .ref 2 else .dY),jh Φ7 0 [.sl 6],bI,jo 15 0] [.sub (.k 1500) (.wt (.p 1 0))] [(U5,[])] 17 (.k 0)
def MA:Gu:={ kC 23 with an:=fun id s i=>match id,i with|2,4=>.im|_,_=>.no }
def Ff (tp:Bool):Sp:=bY 197 (QN tp) [QO,jo 64 0,bS] [] [(wO (bT [bB,bB]),[])] 2 (.k 0)
def Fg:Gu:={ kC 197 with lp:=fun id s=>e8 (.t 22) (.len (.t 20)) [] [0,1,5,8,20,21,22] s }
def Fh (tp:Bool):Sp:=bY 124 (QN tp) [QO,jo 64 0] [] [(wO bB,[])] 3 (.k 0)
def MB (tp:Bool):Sp:=bY 26 (QN tp) [QO,bI] [] [(wO (bT [jh Φ7 1 (c9 (R1 80) 0 i64),bB]),[])] 17 (.k 0)
def ord:SS:=⟨6,[],[.loc 2 355 [.cV 3,.ref 4,.ref 5],.im 3 (.a (.len 4))],[.sl 4 34 0,.sl 5 109 1],[(1,1,true)],eqs (.a (.len 4)) (.a (.len 5))++[(kz 1 0).sub (.a (.len 4)),(LE.k 16000000).sub (kz 1 0)],[],[],[],[],[],[],[(1,0)]⟩
def Qn:Bl:=bC (.cu 2 0)
def MC:SS:={ ord with gs:=[(1,1,false)],sb:=[] }
def J3:Sp:=bY 128 MC [Qn] [] [(wO (fun _ s=>(sc (.int .i64 (.a (.len 4))),s)),[])] 0 (.k 0)
def N5:Sp:=bY 198 MC [Qn,bS] [] [(wO (bT [jo 107 0,bB]),[.sub (mK 0) (.len (.p 100 0))])] 0 (.k 0)
def Tg:Bl:=fun e s=>let k:=s.nx;let w:=s.nx+1;(sc (.bool (.v (s.nx+2))),⟨s.nx+3,[],[.loc 2 355 [.cV 3,.ref k,.ref w],.im 3 (.a (.len k))],[.sl k 34 0,.sl w 109 1],[],eqs (.a (.len k)) (.a (.len w))++[((LE.a (.len 4)).sub (.a (.len k))).bk 1],[],[],[],[],[],[],[]⟩)
def N6:Sp:=bY 199 MC [Qn,bS,jo 107 0] [.sub (mK 0) (.len (.t 2))] [(Tg,[])] 0 (.k 0)
def N7:Gu:={ kC 199 with an:=fun id s i=>match id,i with|8,1=>.im|10,6=>.ty 34 0|10,7=>.ty 34 0|11,6=>(match rG s (.n 0)with|some g=>.ty 109 g|none=>.no)|11,7=>(match rG s (.n 0)with|some g=>.ty 109 g|none=>.no)|_,_=>.no }
def N8:Sp:=dW 123 [] [] [(fun e s=>(sc (.cu s.nx 0),⟨s.nx+2,[],[.loc s.nx 355 [.cV (s.nx+1),.ab,.ab],.im (s.nx+1) (.k 0)],[],[],[],[],[],[],[],[],[],[]⟩),[])] 0 (.k 0)
def N9:Gu:={ kC 123 with an:=fun id s i=>match id,i with|1,0=>.im|_,_=>.no }
end Go.Rd
namespace Go.Rd
open Go.aI Go.RowKit Go.Rt
def nA (k:Nat):LE:=.a (.n k)
def VQ (tp:Bool):SS:=let o:=GQ tp
 ⟨o+11,[],[.loc (o+2) 260 [.cu 7 0,.str (o+3),.cV (o+4),.cu (o+7) 0],.ms (o+4) (o+5) 88 1 (nA (o+6)) none,.loc (o+7) 355 [.cV (o+8),.ref (o+9),.ref (o+10)],.im (o+8) (.a (.len (o+9)))]++S8 tp,
  [.mp (o+5) 88 1,.sl (o+9) 34 0,.sl (o+10) 109 (o+1)]++S9 tp,(o+1,o+1,true)::Ta tp,
  eqs (.a (.len (o+9))) (.a (.len (o+10)))++[(kz (o+1) 0).sub (.a (.len (o+9))),(LE.k 2000).sub (nA (o+6))]++Tb,[],[],[],[],[],Tc tp,[(o+1,0)]⟩
def VR (tp:Bool):Bl:=bC (.cu (GQ tp+2) 0)
def U6 (tp:Bool):XE:=.add (.raw (kz (GQ tp+1) 0)) (.mul 2001 (.raw (nA (GQ tp+6))))
def TS (tp:Bool)(w:XE):XE:=.sub (.k 16000000) (.add (U6 tp) w)
def MD (tp:Bool)(w:XE):Bl:=fun e s=>let o:=GQ tp;let d:=s.nx;let f:=s.nx+1;let k:=s.nx+2;let v:=s.nx+3
 (.dC [],⟨s.nx+4,[],e.os.map (fun x=>match x with
   |.ms b x c g _ _=>.ms b x c g (nA f) none
   |.loc b el cs=>bif Nat.beq el 355 then .loc b el [.cV (o+8),.ref k,.ref v]else .loc b el cs
   |.im b e=>bif Nat.beq b (o+8)then .im b (.a (.len k))else .im b e
   |x=>x),[.sl k 34 0,.sl v 109 (o+1)],[(o+1,d,true)],
  eqs (.a (.len k)) (.a (.len v))++[(kz d 0).sub (.a (.len k)),(nA (o+6)).sub (nA f)]++(match rE e (.add (U6 tp) w)with|some m=>[m.sub ((kz d 0).add ((nA f).nG 2001))]|none=>[]),[],[],[],[],[],[],[(d,0)]⟩)
def U7 (tp:Bool):SS:=let s:=VQ tp;⟨s.nx+1,[],s.os,s.ty,s.gs,[((LE.a (.len 3)).sub (nA s.nx)).bk (-1)]++s.fs,[],[],[],[],[],s.fz,s.sb⟩
def Wt (tp:Bool):SS:=let s:=U7 tp;⟨s.nx+1,[],s.os,s.ty,s.gs,s.fs,[],[],[(1,.int .i64 (nA (GQ tp+11)),.a (.wt (GQ tp+12)))],[],[],s.fz,s.sb⟩
def U8 (tp:Bool):List Bl:=[VR tp,bC (.int .i64 (nA (GQ tp+11))),bC (.oB 3 (nA (GQ tp+11)) 15 0)]
def F2 (tp:Bool):XE:=.mul 4002 (.raw (nA (GQ tp+6)))
def wY (tp:Bool):XE:=.raw (.a (.wt (GQ tp+12)))
def MF (tp:Bool):Sp:=bY 63 (VQ tp) [VR tp,jo 81 1] [TS tp (.wt (.t 1))] [(MD tp (.wt (.t 1)),[])] 20 (.add (F2 tp) (.mul 2 (.wt (.t 1))))
def MG (tp:Bool):Gu:={ kC 63 with
 lp:=fun id s=>e8 (.t 10) (.len (.t 8)) (NP (.t 8) (.t 10)++[.Ki (.n 0),.ms (.c 0 2),.ge (.Qb (.c 0 2)),.sl (.d 0 3 1) 34 .z,.sl (.d 0 3 2) 109 (.n 0),.im (.d 0 3 0) (.len (.d 0 3 1))]++Mh (sB (.len (.d 0 3 1)) (.len (.d 0 3 2))++[.sub (mK 0) (.len (.d 0 3 1)),.sub (.raw (nA (GQ tp+6))) (.Qb (.c 0 2)),.sub (.add (U6 tp) (.pw (.t 8) (.v (.t 10)))) (.add (mK 0) (.mul 2001 (.Qb (.c 0 2))))])) [0,8,9,10] s }
def Fi (tp:Bool):Sp:=bY 125 (U7 tp) (U8 tp) [TS tp (.k 1)] [(MD tp (.k 1),[])] 19 (.k 0)
def Fj:Gu:={ kC 125 with
 an:=fun id s i=>match id,i with|1,11=>.ty 107 0|_,_=>.no
 ac:=fun id=>match id with|1=>[u7 (.n 0) 0 (.add (mK 0) (.k 1))]|_=>[] }
def Fk (tp:Bool):Sp:=bY 126 (U7 tp) (U8 tp) [TS tp (.k 0)] [(MD tp (.k 0),[])] 20 (.add (F2 tp) (.k 1))
def VS:List SO->Option Nat
 | []=>none
 |.ms _ _ _ g _ _::_=>some g
 |_::l=>VS l
def U9 (x:XR)(s:SS):Option Ga:=match VS s.os,rC s x with
 |some g,some x=>(match ghost s.gs g with|some d=>(match sX s.ats d x with|some _=>none|none=>some (.at_ g x))|none=>none)
 |_,_=>none
def Fl:Gu:={ kC 126 with ac:=fun id=>match id with|2=>[U9 (.t 19)]|_=>[] }
def Fm (tp:Bool):Sp:=bY 127 (Wt tp) (U8 tp) [TS tp (wY tp)] [(MD tp (wY tp),[])] 20 (.add (F2 tp) (.add (.mul 2 (wY tp)) (.k 1)))
def Va:Bl:=fun e s=>let x:=s.nx;(sc (.cu x 0),⟨x+4,[],e.os++[.loc x 260 [.cu 7 0,(rC e (.t 1)).getD .ab,.cV (x+1),.cu (x+2) 0],.em (x+1) .str,.loc (x+2) 355 [.cV (x+3),.ab,.ab],.im (x+3) (.k 0)],[],[],[],[],[],[],[],[],[],[]⟩)
def MH (tp:Bool):Sp:=bY 62 (QN tp) [QO,bS] [] [(Va,[])] 1 (.k 0)
def MI:Gu:={ kC 62 with an:=fun id s i=>match id,i with|1,2=>.em .str|_,_=>.no }
def Oa:Sp:=bY 129 ⟨1,[],[],[],[],[],[],[],[],[],[],[],[]⟩ [bC (.cu 0 0)] [] [(fun e s=>(.ve 201 [] [.cu s.nx 0],⟨s.nx+1,[],[.loc s.nx 257 [.cu 0 0]],[],[],[],[],[],[],[],[],[],[]⟩),[])] 0 (.k 0)
def Vb:SS:=let s:=MC;⟨10,[],.loc 6 260 [.cu 7 0,.str 8,.cV 9,.cu 2 0]::s.os,s.ty,s.gs,s.fs,[],[],[],[],[],[],[]⟩
def Th:Sp:=bY 64 Vb [bC (.cu 6 0)] [] [(wO (jo 110 0),[])] 1 (.k 0)
def Ti:Gu:={ kC 64 with an:=fun id s i=>match id,i with|1,5=>.ty 110 0|_,_=>.no }
def Tj (b y:XR)(s:SS):Option Ga:=match rC s b,rC s y with|some (.cV b),some (.ref y)=>some (.UQ b y)|_,_=>none
def MJ (tp:Bool):Sp:=bY 24 (QN tp) [QO] [] [(wO (jo 110 0),[])] 21 (.k 0)
def MK:Gu:={ kC 24 with ac:=fun id=>match id with|4=>[Tj (.c 3 2) (.c 0 1),SQ [(0,.k 0)] .z]|_=>[] }
def ML (tp:Bool):Sp:=bY 25 (QN tp) [QO,bS,jo 16 0] [JX 1500 (.t 2)] [(wO (jo 110 0),[]),(wO (bC .ab),[])] 21 (.k 0)
def MM:Gu:={ kC 25 with
 ac:=fun id=>match id with|7=>[Tj (.c 9 2) (.c 0 1),SQ [(0,.k 0)] .z]|_=>[]
 lp:=fun id s=>e8 (.t 35) (.len (.t 33)) ([.Ki (.n 0),.ms (.c 9 2),.ge (.Qb (.c 9 2)),.sl (.d 9 3 1) 34 .z,.sl (.d 9 3 2) 109 (.n 0),.im (.d 9 3 0) (.len (.d 9 3 1))]++Mh (sB (.len (.d 9 3 1)) (.len (.d 9 3 2))++[.sub (mK 0) (.len (.d 9 3 1)),.sub (.k 2000) (.Qb (.c 9 2)),.sub (.add (.k 4002000) (.mul 2000 (.v (.t 35)))) (.add (mK 0) (.mul 2001 (.Qb (.c 9 2))))])) [0,1,9,33,34,35] s }
end Go.Rd
namespace Go.Rd
open Go.aI Go.RowKit Go.Rt
def Qo:Sp:=dW 22 [] [] [(bC tt,[])] 0 (.k 0)
def Tk:List K2:=[i64,.sl 15,.str,.sl 16]
def QP:Sp:=dW 4 [jo 8 0,jh Φ7 0 [.sl 6],jh Φ7 0 Tk] [wu [.wt (.t 0)]] [(bC tt,[])] 30 (.k 0)
def Vc:Gu:={ kC 4 with lp:=fun id s=>match id with
 |0=>Bx [.nat (.t 7),.ge (.sub (.len (.c 5 1)) (.v (.t 7))),.bE [0,4,5,6,7]] (.sub (.len (.c 5 1)) (.v (.t 7))) s
 |2=>Bx [.nat (.t 8),.ge (.sub (.k 2) (.v (.t 8))),.bE [0,4,5,6,8]] (.sub (.k 2) (.v (.t 8))) s
 |4=>Bx [.int (.t 10),.ge (.add (.v (.t 10)) (.k 1)),.ge (.sub (.add (.len (.c 4 0)) (.k 1)) (.v (.t 10))),.bE [0,4,5,6,8,9,10]] (.sub (.add (.len (.c 4 0)) (.k 1)) (.v (.t 10))) s
 |6=>Bx [.nat (.t 13),.ge (.sub (.len (.t 0)) (.v (.t 13))),.bE [0,4,5,6,8,9,12,13]] (.sub (.len (.t 0)) (.v (.t 13))) s
 |_=>none }
end Go.Rd
namespace Go.Rd
open Go.aI Go.RowKit Go.Rt
def Vd:List (Sp×Gu):=[
 (QP,Vc),(MH true,MI),(MH false,MI),(Oa,kC 129),(Th,Ti),(Fi true,Fj),
 (Fk true,Fl),(Fm true,kC 127),(MF true,MG true),(MJ true,MK),(ML true,MM),(Fi false,Fj),
 (Fk false,Fl),(Fm false,kC 127),(MF false,MG false),(MJ false,MK),(ML false,MM),(NU,cj 21),
 (NV,kC 320),(NW,NX),(NY,kC 322),(NZ,N0),(N1,kC 321),(N2,kC 95),
 (Fe true,Fc),(Fe false,Fc),(N3,N4),(Tf,kC 60),(Mz true,MA),(Mz false,MA),
 (Ff true,Fg),(Ff false,Fg),(Fh true,kC 124),(Fh false,kC 124),(MB true,kC 26),(MB false,kC 26),
 (J3,kC 128),(N5,kC 198),(N6,N7),(N8,N9),(R2,R3),(NC,ND),
 (R4,R5),(NF,NG),(R6,R7),(L8,L9),(VJ,VK),(JV,JW),
 (EI 0,EJ),(EI 20,EJ),(EK 0,EL),(EK 20,EL),(EM 0,EN),(EM 20,EN),
 (EO 0,cj 149),(EO 20,cj 149),(Mb 0,Mc),(Mb 20,Mc),(R9,cj 85),(Sa,cj 86),
 (Sc,Sd),(Se,Sf),(Sh,cj 89),(Si,Sj),(Sk,Sm),(oe,og),
 (Md 0,Me),(Md 20,Me),(Mf 0,cj 44),(Mf 20,cj 44),(Sz,SD),(Sw,cj 93),
 (Sx,Sy),(Ss,Sv),(SE,SF),(SG,cj 95),(SH,SI),(Mg,Mi),
 (J0,cj 122),(NJ,cj 122),(Mk true,Ml),(Mk false,Ml),(Mm true,cj 65),(Mm false,cj 65),
 (EP true,cj 155),(EP false,cj 155),(ER true,cj 154),(ER false,cj 154),(ES true,ET),(ES false,ET),
 (NK,cj 449),(NL,cj 450),(NM,cj 345),(NN,cj 346),(Mo 0,cj 53),(EU 0,cj 109),
 (EV 0,qQ 107 1),(EW 0,qQ 108 2),(EX 0,cj 111),(EY 0,qQ 110 3),(Mp 0,cj 54),(EZ 0,cj 153),
 (E0 0,qQ 152 4),(E3 0,cj 100),(E4 0,cj 102),(E5 0,qQ 101 5),(Mq 0,cj 99),(Mr 0,qQ 98 7),
 (Ms 0,cj 97),(Mt 0,qQ 96 6),(Mu 0,cj 49),(Mo 60,cj 53),(EU 60,cj 109),(EV 60,qQ 107 1),
 (EW 60,qQ 108 2),(EX 60,cj 111),(EY 60,qQ 110 3),(Mp 60,cj 54),(EZ 60,cj 153),(E0 60,qQ 152 4),
 (E3 60,cj 100),(E4 60,cj 102),(E5 60,qQ 101 5),(Mq 60,cj 99),(Mr 60,qQ 98 7),(Ms 60,cj 97),
 (Mt 60,qQ 96 6),(Mu 60,cj 49),(NQ,NR),(E6 true,cj 103),(E7 true,cj 105),(sD true,sF true),
 (E8 true,E9 true),(Fa true,Fb true),(qN true,qO true),(Mv true,Mw true),(Mx true,My true),(E6 false,cj 103),
 (E7 false,cj 105),(sD false,sF false),(E8 false,E9 false),(Fa false,Fb false),(qN false,qO false),(Mv false,Mw false),
 (Mx false,My false),(SX,cj 13),(SY,SZ),(S0,cj 51),(S3,S4),(S5,cj 18),
 (S6,cj 19),(S7,cj 21)]
def aj:List (TypeId×KK):=[(9,.str),(220,.pair),(9,.mE)]
def aU:List Sp:=Vd.map (·.1)++[Qo]
end Go.Rd
