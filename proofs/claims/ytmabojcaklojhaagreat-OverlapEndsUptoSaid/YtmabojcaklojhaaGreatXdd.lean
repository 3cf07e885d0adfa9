/- Part Xdd of the proof of OverlapEnds: no condition. -/
import Derived.Test.YtmabojcaklojhaaGreatXdc
import Derived.Test.YtmabojcaklojhaaGreatXad
set_option linter.unusedSimpArgs false
set_option linter.unusedVariables false
namespace Go.Rd
open Go.aK Go.RowKit Go.Rt
def CY (cf:Cf)(g x cc':Nat)(s:SS)(K:SS->R):R:=match mD (F2 x) s.os,kI s.gs g with
 |some (.ul _ cc g',osA),some d=>bif Nat.beq g' g&&((cf.Φ.fV cc'&&!cf.Φ.raw cc')&&(Nat.beq (cf.Φ.ty cc) (cf.Φ.ty cc')&&(TM (cf.Φ.ks cc) (cf.Φ.ks cc')&&(Nat.blt d s.nx&&(bG s.nx g&&(Nat.blt x s.nx&&osA.all (SO.lt s.nx)))))))then
  fresh s fun d' s'=>fresh (F3 (sW s' g d' false s.os (sF s d d') [] [d'] (ou s.sb d d')) d d' [0,1,2,3,4,5]) fun x' s2=>K (yA (IY x x') (n9 (bL (c6 s2 osA) (.sl x' cc' g)) (.a (.len x')) (.a (.len x))))
  else .bad 250 s
 |_,_=>.bad 251 s
section
variable {c:Cx}{T:Tm}{G G':GH}{Γ Γ':dI}{ρ ρ':bm}{s s':SS}{cf:Cf}{ops:Array Oper}{i d:Nat}
theorem Ge {g x cc':Nat}{K:SS->R}(hΦ:cf.Φ=c.Φ)(h:(CY cf g x cc' s K).Ok)(hk:Ok c T G Γ ρ s):Ac c T G Γ s ρ K:=by
 unfold CY at h;rw[hΦ]at h;split at h
 ·rename_i y cc g' osA dd hr hgw;obtain⟨r1,r2⟩:=eK hr;have hy:y=x:=aj r1;subst hy;cases hb:(Nat.beq g' g&&((c.Φ.fV cc'&&!c.Φ.raw cc')&&(Nat.beq (c.Φ.ty cc) (c.Φ.ty cc')&&(TM (c.Φ.ks cc) (c.Φ.ks cc')&&(Nat.blt dd s.nx&&(bG s.nx g&&(Nat.blt y s.nx&&osA.all (SO.lt s.nx))))))))with
  |false=>rw[hb]at h;cases h
  |true =>
   rw[hb]at h;simp only[cond_true]at h;simp only[za,zam]at hb;obtain⟨b1,⟨b2,hrw⟩,b3,b4,b5,b6,b7,b8⟩:=hb;have b1:=aj b1;have b3:=aj b3;subst b1
   have hfz:(ρ dd).gg.fz=false:=by
    obtain⟨_,_,g3⟩:=hk.q.gs (ig ρ g',(ρ dd).gg,true) (List.mem_map.2 ⟨(g',dd,true),gL hgw,rfl⟩);exact (g3 rfl).2.1
   have hgd:Γ.gd (ig ρ g')=(ρ dd).gg:=(hk.q.gs (ig ρ g',(ρ dd).gg,true) (List.mem_map.2 ⟨(g',dd,true),gL hgw,rfl⟩)).2.1;obtain⟨u1,u2,u3⟩:=hk.own (r2.mem_iff.2 (by simp:SO.ul y cc g'∈osA++[.ul y cc g']))
   -- the lengths
   obtain⟨F,hF⟩:∃F:Nat->Nat,∀dn:Gd,(ρ dd).gg.Le dn->dn.fz=true->dn.fl=F->((ρ y).vv=.ab/\(ρ y).ns.length=0)∨∃b cap size C,(ρ y).vv=.dx b 0 (ρ y).ns.length cap/\Γ.m b=none/\G b=some (.cells .data (c.Φ.ty cc) size C)/\C.length=(ρ y).ns.length*af c.P (c.Φ.ty cc)/\cap*af c.P (c.Φ.ty cc)<=size/\(ρ y).ns.length<=cap /\
     ∀j,j<(ρ y).ns.length->∃fs,iz c.Φ dn (ig ρ g') j (c.Φ.ks cc') ((C.drop (j*af c.P (c.Φ.ty cc))).take (af c.P (c.Φ.ty cc))) fs/\jj c.Φ fs<=WU/\∀f∈fs,fF c.P c.Φ G Γ f:=by
    rcases u3 with ⟨v1,v2⟩|⟨b,cap,size,C,v1,v2,v3,v4,v5,v6,v7⟩
    ·exact⟨fun _=>0,fun dn _ _ _=>.inl ⟨v1,v2⟩⟩
    ·have:∀j,∃n:Nat,j<(ρ y).ns.length->∃fs,(∀dn:Gd,(ρ dd).gg.Le dn->dn.fz=true->dn.fl j=n->iz c.Φ dn (ig ρ g') j (c.Φ.ks cc') ((C.drop (j*af c.P (c.Φ.ty cc))).take (af c.P (c.Φ.ty cc))) fs)/\jj c.Φ fs<=WU/\∀f∈fs,fF c.P c.Φ G Γ f:=fun j=>by
       by_cases hj:j<(ρ y).ns.length
       ·obtain⟨fs,w1,w2,w3⟩:=v7 j hj;rw[hgd]at w1;obtain⟨n,hn⟩:=ID b4 w1;exact⟨n,fun _=>⟨fs,hn,w2,w3⟩⟩
       ·exact⟨0,fun h=>absurd h hj⟩
     obtain⟨F,hF⟩:=Classical.axiomOfChoice this
     exact⟨F,fun dn a1 a2 a3=>.inr ⟨b,cap,size,C,v1,v2,v3,v4,v5,v6,fun j hj=>by
      obtain⟨fs,w1,w2,w3⟩:=hF j hj
      exact⟨fs,w1 dn a1 a2 (by rw[a3]),w2,w3⟩⟩⟩
   have hle:(ρ dd).gg.Le ⟨(ρ dd).gg.n,(ρ dd).gg.at_,F,true,(ρ dd).gg.sub⟩:=⟨fun j=>zad _,fun _ _ _ h=>h,fun h=>(by rw[hfz]at h;cases h),rfl⟩;obtain⟨ρ1,p1,p2,p3,p4,p5⟩:=rI (dn:=⟨(ρ dd).gg.n,(ρ dd).gg.at_,F,true,(ρ dd).gg.sub⟩) (w:=false) hgw hle (fun h=>by cases h) rfl b5 b6 h hk;have hdd:=p2 dd (ax b5);have ok1:=yw (ks:=[0,1,2,3,4,5]) (dd:=dd) (dn:=s.nx) (p5 [] [s.nx] (fun p hp=>by cases hp) (fun d hd=>by rw[List.mem_singleton.1 hd,p3])) fun k=>by rw[p3,hdd]
   have hF:=hF _ hle rfl rfl;generalize hdn:(⟨(ρ dd).gg.n,(ρ dd).gg.at_,F,true,(ρ dd).gg.sub⟩:Gd)=dn at p3 p5 ok1 hF hle;have hlim:(List.replicate (ρ y).ns.length WU).length<=ma:=by rw[zai];exact U.Cn _
   have href:cD (ρ y).vv=true:=U.rh _
   -- the state between,in the old words
   have hso:∀(s0:SS) (l:List Nat),(F3 s0 dd s.nx l).den ρ1=s0.den ρ1:=fun s0 l=>by
    induction l with
    |nil=>rfl
    |cons k l ih=>exact ih
   have Kl:(F3 (sW (aC s) g' s.nx false s.os (sF s dd s.nx) [] [s.nx] (ou s.sb dd s.nx)) dd s.nx [0,1,2,3,4,5]).nx=s.nx+1:=by rw[CS];rfl
   obtain⟨gs1,hden1⟩:∃gs1,(F3 (sW (aC s) g' s.nx false s.os (sF s dd s.nx) [] [s.nx] (ou s.sb dd s.nx)) dd s.nx [0,1,2,3,4,5]).den ρ1=⟨(s.den ρ).L,(s.den ρ).os,(s.den ρ).eF,gs1⟩:=by
    rw[hso];have eD0:=(SS.cg (dK h) p2).1;exact⟨_,St.ext' (by have:=congrArg St.L eD0;exact this) (by have:=congrArg St.os eD0;exact this) (by have:=congrArg St.eF eD0;exact this) rfl⟩
   generalize F3 (sW (aC s) g' s.nx false s.os (sF s dd s.nx) [] [s.nx] (ou s.sb dd s.nx)) dd s.nx [0,1,2,3,4,5]=s1 at p1 ok1 Kl hden1;obtain⟨q1,q2,q3,q4⟩:=az p1 ok1 (.v (ρ y).vv (List.replicate (ρ y).ns.length WU));have hs1:=dK p1;rw[Kl]at q1 q2 q3 q4;have A:dh s.nx ρ (ρ1.up (s.nx+1) (.v (ρ y).vv (List.replicate (ρ y).ns.length WU))):=p2.trans q2 (zan _);generalize hρ2:ρ1.up (s.nx+1) (.v (ρ y).vv (List.replicate (ρ y).ns.length WU))=ρ2 at q2 q3 q4 A;have hv':(ρ2 (s.nx+1)).vv=(ρ y).vv:=by rw[q4];exact U.j6 href
   have hn':(ρ2 (s.nx+1)).ns=List.replicate (ρ y).ns.length WU:=by rw[q4];exact U.lr hlim
   have hy2:=A y (ax b7);have eD:=(SS.cg hs1 (ρ:=ρ1) (ρ':=ρ2) (by rw[Kl];exact q2)).1;have eO:osA.map (SO.den ρ2)=osA.map (SO.den ρ):=zav fun o ho=>SO.cg A (List.all_eq_true.1 b8 o ho);have hpd:=dR r2 ρ;rw[zar,zbc]at hpd;have hq1:=ok1.q;rw[hden1]at hq1;have hlt:ig ρ g'<(iq Γ (ig ρ g') dn Γ.ng).ng:=u1;have hgl:dV Γ (iq Γ (ig ρ g') dn Γ.ng):=od (fun _=>by rw[hgd];exact hle) (zad _);have hself:∀{b:Nat} {x:Gh},G b=some x->fx G b x=G:=fun h=>A5 h
   -- the list made common
   obtain⟨Γ2,hQ⟩:∃Γ2,Q c T G Γ2 ⟨(s.den ρ).L,osA.map (SO.den ρ),.sl (ρ y).vv cc' (ig ρ g') (List.replicate (ρ y).ns.length WU)::(s.den ρ).eF,gs1⟩:=by
    rcases hF with ⟨v1,v2⟩|⟨b,cap,size,C,v1,v2,v3,v4,v5,v6,v7⟩
    ·refine⟨iq Γ (ig ρ g') dn Γ.ng,?_⟩;have:=hq1.iW (st':=⟨(s.den ρ).L,osA.map (SO.den ρ),(s.den ρ).eF,gs1⟩) (fun _ _ h=>h) ⟨_,hpd⟩ (fun f h=>h) (fun p h=>h)
     exact⟨this.ml,this.at_,this.xU,this.rl,this.grow,this.own,this.new,this.nd,this.ht,fun f hf=>by
      rcases List.mem_cons.1 hf with rfl|hf
      ·rw[v2];exact⟨zbo _,.inl ⟨v1,rfl⟩⟩
      ·exact this.ty f hf,this.gs⟩
    ·refine⟨updΓ (iq Γ (ig ρ g') dn Γ.ng) b (.cells cc' (ig ρ g') (List.replicate (ρ y).ns.length WU)),?_⟩
     have:=hq1.W7 (osA:=osA.map (SO.den ρ)) (o:=SO.den ρ (.ul y cc g')) (b:=b) (y:=.cells cc' (ig ρ g') (List.replicate (ρ y).ns.length WU)) (g':=.cells .data (c.Φ.ty cc) size C) (tys':=[.sl (ρ y).vv cc' (ig ρ g') (List.replicate (ρ y).ns.length WU)]) hpd (by show su (ρ y).vv=_;rw[v1];rfl) v2 (fun _ _ _ h=>by rw[v3]at h;cases h) (fun _ _ _ h=>by rw[v3]at h;cases h;exact⟨_,rfl⟩)
      (fun hr hl=>⟨⟨hlt,hrw⟩,fun _ m hm=>zbv hm,size,C,by rw[aA,b3],by rw[zai,<-b3];exact v4,fun j m hj=>by
       have hm:=zbv (zaw hj);have hjl:=(List.getElem?_eq_some_iff.1 hj).1;rw[zai]at hjl;subst hm;obtain⟨fs,w1,w2,w3⟩:=v7 j hjl;rw[<-b3];refine⟨fs,?_,w2,fun f hf=>((w3 f hf).le (dQ.refl _) hgl).le hr hl⟩;show iz c.Φ ((iq Γ (ig ρ g') dn Γ.ng).gd (ig ρ g')) _ _ _ _ _
       rw[gq];exact w1⟩) (fun f hf=>by
       rw[List.mem_singleton.1 hf]
       exact⟨hlim,.inr (.inr ⟨b,cap,_,size,C,by rw[zai];exact v1,updΓ_same _ _ _,(zcl).symm,by rw[aA,b3],by rw[<-b3];exact v5,by rw[zai];exact v6⟩)⟩)
     rw[hself v3]at this;exact this
   refine⟨G,Γ2,ρ2,_,sD.refl _,q1,A,?_,Ok.yA (Ok.n9 ⟨⟨q3.sat.fs,q3.sat.bs,q3.sat.pw,q3.sat.ats,q3.sat.dB,q3.sat.ne,q3.sat.fz,q3.sat.sb⟩,?_⟩ ?_) (CV ?_)⟩
   ·show s.nx<=s1.nx+1;rw[Kl];omega
   ·have e2:(bL (c6 (aC s1) osA) (.sl (s.nx+1) cc' g')).den ρ2=⟨(s.den ρ).L,osA.map (SO.den ρ),.sl (ρ y).vv cc' (ig ρ g') (List.replicate (ρ y).ns.length WU)::(s.den ρ).eF,gs1⟩:=by
      have eD2:=eD.trans hden1;refine St.ext' (by have:=congrArg St.L eD2;exact this) eO ?_ (by have:=congrArg St.gs eD2;exact this);show dW.den ρ2 (.sl (s.nx+1) cc' g')::_=_;rw[show dW.den ρ2 (.sl (s.nx+1) cc' g')=.sl (ρ y).vv cc' (ig ρ g') (List.replicate (ρ y).ns.length WU) by simp only[dW.den];rw[hv',hn',bR A b6]];congr 1;have:=congrArg St.eF eD2;exact this
    have hg2:=hQ;rw[<-e2]at hg2;exact hg2
   ·rw[LE.aV,LE.aV];show (((ρ2 (s.nx+1)).ns.length:Nat):Int)=(((ρ2 y).ns.length:Nat):Int);rw[hn',hy2,zai]
   ·rw[hv',hy2]
 ·cases h
end
end Go.Rd
namespace Go.Rd
open Go.aK Go.RowKit Go.Rt
inductive Sb where
 |vr (y:Nat)|n (e:LE)|z (e:LE)|b (b:BE)|s (x:SC)|v (x:SC)
def yB:List (Nat×Sb)->Nat->Option Sb
 | [],_=>none
 |p::l,k=>bif Nat.beq p.1 k then some p.2 else yB l k
theorem tu:∀{l:List (Nat×Sb)}{k:Nat}{b:Sb},yB l k=some b->(k,b)∈l
 | [],_,_,h=>by cases h
 |p::l,k,b,h=>by
  have h:(bif Nat.beq p.1 k then some p.2 else yB l k)=some b:=h;cases hb:Nat.beq p.1 k with
  |true=>rw[hb]at h;cases h;have:=aj hb;subst this;exact zac ..
  |false=>rw[hb]at h;exact zaa _ (tu h)
structure Su where
 base:Nat
 l:List (Nat×Sb)
def Su.get (σ:Su)(k:Nat):Option Sb:=bif Nat.blt k σ.base then some (.vr k)else yB σ.l k
def Xq (ρ:bm):SC->List Nat|.ref y=>(ρ y).ns|_=>[]
def Sb.u (ρ:bm):Sb->U
 |.vr y=>ρ y
 |.n e=>.n (e.ev ρ).toNat
 |.z e=>.z (e.ev ρ)
 |.b be=>.b (be.ev ρ)
 |.s x=>(match x.den ρ with|.str l m=>.s l m|_=>.n 0)
 |.v x=>.v (x.den ρ) (Xq ρ x)
def Su.up (σ:Su)(ρ:bm):bm:=fun k=>match σ.get k with|some b=>b.u ρ|none=>.n 0
def Lf:SC->Bool
 |.ref _=>true|.ab=>true|.c7=>true|.bg=>true|.bZ _ _=>true|.py _ _ _ _=>true|.vb _ _=>true|.cV _=>true|.wA _ _=>true
 |_=>false
theorem IZ {x:SC}(h:Lf x=true)(ρ:bm):cD (x.den ρ)=true:=by
 cases x<;>first|(cases h;done)|skip
 ·exact U.rh _
 ·rfl
 ·rfl
 ·rfl
 ·rfl
 ·show cD (pz _ _)=true;unfold pz;split<;>rfl
 ·show cD (mz _ _)=true;unfold mz;split<;>rfl
 ·rfl
 ·rfl
def Sb.fit (ρ:bm):Sb->Prop
 |.n e=>0<=e.ev ρ
 |.s x=>(jO x).isSome=true
 |.v x=>Lf x=true
 |_=>True
def ju (ρ:bm)(σ:Su):Prop:=∀p∈σ.l,p.2.fit ρ
def Sb.TR (s:SS):Sb->Bool
 |.n e=>aX s e
 |.s x=>(jO x).isSome
 |.v x=>Lf x
 |_=>true
theorem Sb.Lg {s:SS}{b:Sb}{ρ:bm}(h:b.TR s=true)(hs:Sat ρ s):b.fit ρ:=by
 cases b with
 |n e=>exact av h hs
 |s x=>exact h
 |v x=>exact h
 |_=>trivial
theorem Su.fit {σ:Su}{ρ:bm}(h:ju ρ σ){k:Nat}{b:Sb}(hb:σ.get k=some b):b.fit ρ:=by
 unfold Su.get at hb;cases hc:Nat.blt k σ.base with
 |true=>rw[hc]at hb;cases hb;trivial
 |false=>rw[hc]at hb;exact h _ (tu hb)
theorem Su.dt {σ:Su}{ρ:bm}{k:Nat}{b:Sb}(hb:σ.get k=some b):σ.up ρ k=b.u ρ:=by unfold Su.up;rw[hb]
theorem map_some {α β:Type}{o:Option α}{f:α->β}{b:β}(h:o.map f=some b):∃a,o=some a/\b=f a:=by
 cases o with
 |none=>cases h
 |some a=>cases h;exact⟨a,rfl,rfl⟩
theorem Ee {a b:Nat}(h:a<b):Nat.blt a b=true:=zbs h
theorem Su.cg (σ:Su)(ρ:bm):dh σ.base ρ (σ.up ρ):=fun i hi=>by
 have:σ.get i=some (.vr i):=by unfold Su.get;rw[Ee hi];rfl
 rw[Su.dt this];rfl
theorem Gf (ρ:bm)(x:SC):(Sb.u ρ (.v x)).ns=Xq ρ x:=by
 show (U.v (x.den ρ) (Xq ρ x)).ns=_;refine U.lr ?_;cases x<;>first|exact U.Cn _|exact zbo _
def sA (σ:Su):At->Option LE
 |.n k=>(match σ.get k with|some (.vr y)=>some (.a (.n y))|some (.n e)=>some e|_=>none)
 |.z k=>(match σ.get k with|some (.vr y)=>some (.a (.z y))|some (.z e)=>some e|_=>none)
 |.len k=>(match σ.get k with|some (.vr y)=>some (.a (.len y))|some (.v (.ref y))=>some (.a (.len y))|some (.v .ab)=>some (.k 0)|_=>none)
 |.wt k=>(match σ.get k with|some (.vr y)=>some (.a (.wt y))|some (.v (.ref y))=>some (.a (.wt y))|some (.v .ab)=>some (.k 0)|_=>none)
 |.sl k=>(match σ.get k with|some (.vr y)=>some (.a (.sl y))|some (.s (.str y))=>some (.a (.sl y))|some (.s (.my l _))=>some (.k l)|_=>none)
 |.gn k b=>(match σ.get k with|some (.vr y)=>some (.a (.gn y b))|_=>none)
section
variable {c:Cx}{T:Tm}{G G':GH}{Γ Γ':dI}{ρ ρ':bm}{s s':SS}{σ:Su}
theorem TS {a:At}{e:LE}(hσ:ju ρ σ)(h:sA σ a=some e):e.ev ρ=a.ev (σ.up ρ):=by
 cases a with
 |n k =>
  unfold sA at h;simp only at h;split at h
  ·rename_i y hg;cases h;rw[LE.aV];simp only[At.ev];rw[Su.dt hg];rfl
  ·rename_i e' hg;cases h;have hf:0<=e.ev ρ:=Su.fit hσ hg;simp only[At.ev];rw[Su.dt hg];show _=(((e.ev ρ).toNat:Nat):Int);omega
  ·cases h
 |z k =>
  unfold sA at h;simp only at h;split at h
  ·rename_i y hg;cases h;rw[LE.aV];simp only[At.ev];rw[Su.dt hg];rfl
  ·rename_i e' hg;cases h;simp only[At.ev];rw[Su.dt hg];rfl
  ·cases h
 |len k =>
  unfold sA at h;simp only at h;split at h
  ·rename_i y hg;cases h;rw[LE.aV];simp only[At.ev];rw[Su.dt hg];rfl
  ·rename_i y hg;cases h;rw[LE.aV];simp only[At.ev];rw[Su.dt hg,Gf];rfl
  ·rename_i hg;cases h;rw[LE.bk];simp only[At.ev];rw[Su.dt hg,Gf];rfl
  ·cases h
 |wt k =>
  unfold sA at h;simp only at h;split at h
  ·rename_i y hg;cases h;rw[LE.aV];simp only[At.ev];rw[Su.dt hg];rfl
  ·rename_i y hg;cases h;rw[LE.aV];simp only[At.ev];rw[Su.dt hg,Gf];rfl
  ·rename_i hg;cases h;rw[LE.bk];simp only[At.ev];rw[Su.dt hg,Gf];rfl
  ·cases h
 |sl k =>
  unfold sA at h;simp only at h;split at h
  ·rename_i y hg;cases h;rw[LE.aV];simp only[At.ev];rw[Su.dt hg];rfl
  ·rename_i y hg;cases h;rw[LE.aV];simp only[At.ev];rw[Su.dt hg];exact congrArg (fun n:Nat=>(n:Int)) (U.oF (m:=(ρ y).sm) (U.Cm (ρ y))).symm
  ·rename_i l m hg;cases h;rw[LE.bk];simp only[At.ev];rw[Su.dt hg];exact congrArg (fun n:Nat=>(n:Int)) (U.oF (m:=m) (ly (x:=.my l m) (ρ:=ρ) (m:=m) (Su.fit hσ hg) rfl)).symm
  ·cases h
 |gn k b =>
  unfold sA at h;simp only at h;split at h
  ·rename_i y hg;cases h;rw[LE.aV];simp only[At.ev];rw[Su.dt hg];rfl
  ·cases h
def sT (σ:Su):List (Int×At)->Option LE
 | []=>some (.k 0)
 |p::l=>(match sA σ p.2,sT σ l with|some e,some r=>some ((e.js p.1).add r)|_,_=>none)
theorem Nm (hσ:ju ρ σ):∀{l:List (Int×At)}{e:LE},sT σ l=some e->e.ev ρ=ot (σ.up ρ) l
 | [],e,h=>by cases h;rw[LE.bk];rfl
 |p::l,e,h=>by
  unfold sT at h;split at h
  ·rename_i e1 r h1 h2;cases h;rw[LE.ij,LE.fJ,TS hσ h1,Nm hσ h2];rfl
  ·cases h
def sE (σ:Su)(e:LE):Option LE:=(sT σ e.ts).map fun r=>r.aO e.c
theorem fe {e e':LE}(hσ:ju ρ σ)(h:sE σ e=some e'):e'.ev ρ=e.ev (σ.up ρ):=by
 unfold sE at h;cases ht:sT σ e.ts with
 |none=>rw[ht]at h;cases h
 |some r=>rw[ht]at h;cases h;rw[LE.aE,Nm hσ ht];unfold LE.ev;omega
def Wc (σ:Su):BE->Option BE
 |.k b=>some (.k b)
 |.v k=>(match σ.get k with|some (.vr y)=>some (.v y)|some (.b b)=>some b|_=>none)
 |.nv k=>(match σ.get k with|some (.vr y)=>some (.nv y)|some (.b b)=>some b.not|_=>none)
 |.ge e=>(sE σ e).map .ge
 |.eq e=>(sE σ e).map .eq
 |.ne e=>(sE σ e).map .ne
theorem QV {b b':BE}(hσ:ju ρ σ)(h:Wc σ b=some b'):b'.ev ρ=b.ev (σ.up ρ):=by
 have lin:∀{e:LE} {f:LE->BE} {b':BE},(sE σ e).map f=some b'->∃e',b'=f e'/\e'.ev ρ=e.ev (σ.up ρ):=fun {e f b'} h=>by
  cases he:sE σ e with
  |none=>rw[he]at h;cases h
  |some e'=>rw[he]at h;cases h;exact⟨e',rfl,fe hσ he⟩
 cases b with
 |k b=>cases h;rfl
 |v k =>
  unfold Wc at h;simp only at h;split at h
  ·rename_i y hg;cases h;simp only[BE.ev];rw[Su.dt hg];rfl
  ·rename_i b hg;cases h;simp only[BE.ev];rw[Su.dt hg];rfl
  ·cases h
 |nv k =>
  unfold Wc at h;simp only at h;split at h
  ·rename_i y hg;cases h;simp only[BE.ev];rw[Su.dt hg];rfl
  ·rename_i b hg;cases h;rw[BE.Cp];simp only[BE.ev];rw[Su.dt hg];rfl
  ·cases h
 |ge e=>obtain⟨e',rfl,he⟩:=lin h;simp only[BE.ev,he]
 |eq e=>obtain⟨e',rfl,he⟩:=lin h;simp only[BE.ev,he]
 |ne e=>obtain⟨e',rfl,he⟩:=lin h;simp only[BE.ev,he]
def sY (σ:Su)(k:Nat):Option Nat:=match σ.get k with|some (.vr y)=>some y|_=>none
theorem fU {k y:Nat}(h:sY σ k=some y):σ.up ρ k=ρ y:=by
 unfold sY at h;split at h
 ·rename_i y' hg;cases h;exact Su.dt hg
 ·cases h
def sR (σ:Su)(k:Nat):Option Nat:=match σ.get k with|some (.vr y)=>some y|some (.v (.ref y))=>some y|_=>none
theorem nI {k y:Nat}(h:sR σ k=some y):(σ.up ρ k).vv=(ρ y).vv/\(σ.up ρ k).ns=(ρ y).ns:=by
 unfold sR at h;split at h
 ·rename_i y' hg;cases h;rw[Su.dt hg];exact⟨rfl,rfl⟩
 ·rename_i y' hg;cases h;rw[Su.dt hg,Gf];exact⟨U.j6 (U.rh _),rfl⟩
 ·cases h
def sC (σ:Su):SC->Option SC
 |.int k e=>(sE σ e).map (.int k)
 |.bool b=>(Wc σ b).map .bool
 |.str x=>(match σ.get x with|some (.vr y)=>some (.str y)|some (.s x)=>some x|_=>none)
 |.my l m=>some (.my l m)
 |.px k x=>(sY σ x).map (.px k)
 |.xX k b=>some (.xX k b)
 |.ref x=>(match σ.get x with|some (.vr y)=>some (.ref y)|some (.v x)=>some x|_=>none)
 |.ab=>some .ab|.c7=>some .c7|.bg=>some .bg|.cJ=>some .cJ
 |.bZ b o=>(sY σ b).map fun y=>.bZ y o
 |.py x e sz o=>(match sR σ x,sE σ e with|some y,some e'=>some (.py y e' sz o)|_,_=>none)
 |.vb x o=>(sR σ x).map fun y=>.vb y o
 |.cV b=>(sY σ b).map .cV
 |.fn f=>some (.fn f)
 |.wA b n=>(sY σ b).map fun y=>.wA y n
theorem A7 {x x':SC}(hσ:ju ρ σ)(h:sC σ x=some x'):x'.den ρ=x.den (σ.up ρ):=by
 have mp:∀{α β:Type} {o:Option α} {f:α->β} {b:β},o.map f=some b->∃a,o=some a/\b=f a:=fun {α β o f b} h=>by
  cases o with
  |none=>cases h
  |some a=>cases h;exact⟨a,rfl,rfl⟩
 cases x with
 |int k e=>obtain⟨e',h1,rfl⟩:=mp h;simp only[SC.den,fe hσ h1]
 |bool b=>obtain⟨e',h1,rfl⟩:=mp h;simp only[SC.den,QV hσ h1]
 |str x =>
  unfold sC at h;simp only at h;split at h
  ·rename_i y hg;cases h;simp only[SC.den];rw[Su.dt hg];rfl
  ·rename_i x1 hg;cases h;have hf:(jO x').isSome=true:=Su.fit hσ hg;obtain⟨q,hq⟩:=Option.isSome_iff_exists.1 hf;obtain⟨l,m,e1,_⟩:=fE hq ρ;show x'.den ρ=AV.str (σ.up ρ x).sl (σ.up ρ x).sm;rw[Su.dt hg,e1];show _=AV.str (Sb.u ρ (.s x')).sl (Sb.u ρ (.s x')).sm;unfold Sb.u;simp only[e1];rw[U.oF (ly hf e1)];rfl
  ·cases h
 |my l m=>cases h;rfl
 |px k x=>obtain⟨y,h1,rfl⟩:=mp h;simp only[SC.den];rw[fU h1]
 |xX k b=>cases h;rfl
 |ref x =>
  unfold sC at h;simp only at h;split at h
  ·rename_i y hg;cases h;simp only[SC.den];rw[Su.dt hg];rfl
  ·rename_i x1 hg;cases h;have hf:Lf x'=true:=Su.fit hσ hg;show x'.den ρ=(σ.up ρ x).vv;rw[Su.dt hg];exact (U.j6 (IZ hf ρ)).symm
  ·cases h
 |ab=>cases h;rfl
 |c7=>cases h;rfl
 |bg=>cases h;rfl
 |cJ=>cases h;rfl
 |bZ b o=>obtain⟨y,h1,rfl⟩:=mp h;simp only[SC.den];rw[fU h1]
 |py x e sz o =>
  unfold sC at h;simp only at h;split at h
  ·rename_i y e' h1 h2;cases h;simp only[SC.den];rw[(nI h1).1,fe hσ h2]
  ·cases h
 |vb x o=>obtain⟨y,h1,rfl⟩:=mp h;simp only[SC.den];rw[(nI h1).1]
 |cV b=>obtain⟨y,h1,rfl⟩:=mp h;simp only[SC.den];rw[fU h1]
 |fn f=>cases h;rfl
 |wA b n=>obtain⟨y,h1,rfl⟩:=mp h;simp only[SC.den];rw[fU h1]
def Bw (σ:Su):List SC->Option (List SC)
 | []=>some []
 |x::l=>(match sC σ x,Bw σ l with|some y,some r=>some (y::r)|_,_=>none)
theorem pE (hσ:ju ρ σ):∀{l l':List SC},Bw σ l=some l'->aD ρ l'=aD (σ.up ρ) l
 | [],_,h=>by cases h;rfl
 |x::l,l',h=>by
  unfold Bw at h;split at h
  ·rename_i y r h1 h2;cases h;show y.den ρ::aD ρ r=_;rw[A7 hσ h1,pE hσ h2];rfl
  ·cases h
def TT (σ:Su):List (Bool×List SC)->Option (List (Bool×List SC))
 | []=>some []
 |p::l=>(match Bw σ p.2,TT σ l with|some y,some r=>some ((p.1,y)::r)|_,_=>none)
theorem I0 (hσ:ju ρ σ):∀{l l':List (Bool×List SC)},TT σ l=some l'->l'.map (cj ρ)=l.map (cj (σ.up ρ))
 | [],_,h=>by cases h;rfl
 |p::l,l',h=>by
  unfold TT at h;split at h
  ·rename_i y r h1 h2;cases h;rw[zal,zal,I0 hσ h2];congr 1;unfold cj;rw[pE hσ h1]
  ·cases h
def sV (σ:Su):SV->Option SV
 |.v ag cs=>(Bw σ cs).map (.v ag)
 |.cN l=>(TT σ l).map .cN
 |.undef=>some .undef
 |.wB f bs cs=>(Bw σ bs).bind fun b=>(Bw σ cs).map (.wB f b)
 |.slt _ _ _=>none
theorem wS {v v':SV}(hσ:ju ρ σ)(h:sV σ v=some v'):v'.den ρ=v.den (σ.up ρ):=by
 cases v with
 |v ag cs =>
  obtain⟨r,hc,rfl⟩:=map_some (o:=Bw σ cs) h;simp only[SV.den,cj];rw[pE hσ hc]
 |cN l =>
  obtain⟨r,hc,rfl⟩:=map_some (o:=TT σ l) h;simp only[SV.den];rw[I0 hσ hc]
 |undef=>cases h;rfl
 |wB f bs cs =>
  have h:((Bw σ bs).bind fun b=>(Bw σ cs).map (.wB f b))=some v':=h;cases hb:Bw σ bs with
  |none=>rw[hb]at h;cases h
  |some b =>
   rw[hb]at h;obtain⟨r,hc,rfl⟩:=map_some (o:=Bw σ cs) h;simp only[SV.den];rw[pE hσ hc,pE hσ hb]
 |slt q e sz=>cases h
def sI (σ:Su):Nat->Option Nat
 |0=>some 0
 |k+1=>(sY σ k).map (·+1)
theorem nJ {g g':Nat}(h:sI σ g=some g'):ig ρ g'=ig (σ.up ρ) g:=by
 cases g with
 |zero=>cases h;rfl
 |succ k =>
  obtain⟨y,hc,rfl⟩:=map_some (o:=sY σ k) h;show (ρ y).nn=_;rw[<-fU (ρ:=ρ) hc];rfl
def TU (σ:Su):dW->Option dW
 |.sl x c g=>(match sR σ x,sI σ g with|some y,some g'=>some (.sl y c g')|_,_=>none)
 |.pt x c g=>(match sR σ x,sI σ g with|some y,some g'=>some (.pt y c g')|_,_=>none)
 |.mp x c g=>(match sR σ x,sI σ g with|some y,some g'=>some (.mp y c g')|_,_=>none)
 |.el x c e off v=>(match sR σ x,sE σ e,sC σ v with|some y,some e',some v'=>some (.el y c e' off v')|_,_,_=>none)
theorem I1 {f f':dW}(hσ:ju ρ σ)(h:TU σ f=some f'):f'.den ρ=f.den (σ.up ρ):=by
 cases f with
 |el x c e off v =>
  unfold TU at h;simp only at h;split at h
  ·rename_i y e' v' h1 h2 h3;cases h;simp only[dW.den,(nI (ρ:=ρ) h1).1,fe hσ h2,A7 hσ h3]
  ·cases h
 |_ =>
  unfold TU at h;simp only at h;split at h
  ·rename_i y g' h1 h2;cases h;obtain⟨e1,e2⟩:=nI (ρ:=ρ) h1;simp only[dW.den,e1,e2,nJ (ρ:=ρ) h2]
  ·cases h
def sQ (σ:Su):Option (SV×Option (Bool×List SC))->Option (Option (SV×Option (Bool×List SC)))
 |none=>some none
 |some (k,none)=>(sV σ k).map fun k'=>some (k',none)
 |some (k,some x)=>(sV σ k).bind fun k'=>(Bw σ x.2).map fun y=>some (k',some (x.1,y))
theorem TV {q q':Option (SV×Option (Bool×List SC))}(hσ:ju ρ σ)(h:sQ σ q=some q'):(q'.map fun p=>(p.1.den ρ,p.2.map (cj ρ)))=q.map fun p=>(p.1.den (σ.up ρ),p.2.map (cj (σ.up ρ))):=by
 match q,h with
 |none,h=>cases h;rfl
 |some (k,none),h =>
  obtain⟨k',hk,rfl⟩:=map_some (o:=sV σ k) h;simp only[zaz,zbu];rw[wS hσ hk]
 |some (k,some x),h =>
  have h:((sV σ k).bind fun k'=>(Bw σ x.2).map fun y=>some (k',some (x.1,y)))=some q':=h;cases hk:sV σ k with
  |none=>rw[hk]at h;cases h
  |some k' =>
   rw[hk]at h;obtain⟨y,hy,rfl⟩:=map_some (o:=Bw σ x.2) h;simp only[zaz];rw[wS hσ hk];unfold cj;simp only;rw[pE hσ hy]
def CZ (σ:Su):SO->Option SO
 |.loc b el cs=>(match sY σ b,Bw σ cs with|some y,some r=>some (.loc y el r)|_,_=>none)
 |.jg x c=>(sR σ x).map fun y=>.jg y c
 |.em b pk=>(sY σ b).map fun y=>.em y pk
 |.ul x c g=>(match sR σ x,sI σ g with|some y,some g'=>some (.ul y c g')|_,_=>none)
 |.am b g k=>(match sY σ b,sI σ g with|some y,some g'=>some (.am y g' k)|_,_=>none)
 |.im b e=>(match sY σ b,sE σ e with|some y,some e'=>some (.im y e')|_,_=>none)
 |.bl x m el=>(match sR σ x,sR σ m with|some y,some m'=>some (.bl y m' el)|_,_=>none)
 |.km b c g n=>(match sY σ b,sI σ g,sE σ n with|some y,some g',some n'=>some (.km y c g' n')|_,_,_=>none)
 |.kq b c g n q=>(match sY σ b,sI σ g,sE σ n,sQ σ q with|some y,some g',some n',some q'=>some (.kq y c g' n' q')|_,_,_,_=>none)
 |.rm x c g n=>(match sR σ x,sI σ g,sE σ n with|some y,some g',some n'=>some (.rm y c g' n')|_,_,_=>none)
 |.it b m n r st ty=>(match sY σ b,sC σ m,sE σ n,sE σ r with|some y,some m',some n',some r'=>some (.it y m' n' r' st ty)|_,_,_,_=>none)
theorem C3 {o o':SO}(hσ:ju ρ σ)(h:CZ σ o=some o'):o'.den ρ=o.den (σ.up ρ):=by
 cases o with
 |loc b el cs =>
  unfold CZ at h;simp only at h;split at h
  ·rename_i y r h1 h2;cases h;simp only[SO.den];rw[<-fU (ρ:=ρ) h1,pE hσ h2]
  ·cases h
 |jg x c =>
  obtain⟨y,hc,rfl⟩:=map_some (o:=sR σ x) h;obtain⟨e1,e2⟩:=nI (ρ:=ρ) hc;simp only[SO.den,e1,e2]
 |em b pk =>
  obtain⟨y,hc,rfl⟩:=map_some (o:=sY σ b) h;simp only[SO.den];rw[<-fU (ρ:=ρ) hc]
 |ul x c g =>
  unfold CZ at h;simp only at h;split at h
  ·rename_i y g' h1 h2;cases h;obtain⟨e1,e2⟩:=nI (ρ:=ρ) h1;simp only[SO.den,e1,e2,nJ (ρ:=ρ) h2]
  ·cases h
 |am b g k =>
  unfold CZ at h;simp only at h;split at h
  ·rename_i y g' h1 h2;cases h;simp only[SO.den,nJ (ρ:=ρ) h2];rw[<-fU (ρ:=ρ) h1]
  ·cases h
 |im b e =>
  unfold CZ at h;simp only at h;split at h
  ·rename_i y e' h1 h2;cases h;simp only[SO.den,fe hσ h2];rw[<-fU (ρ:=ρ) h1]
  ·cases h
 |km b c g n =>
  unfold CZ at h;simp only at h;split at h
  ·rename_i y g' n' h1 h2 h3;cases h;simp only[SO.den,nJ (ρ:=ρ) h2,fe hσ h3];rw[<-fU (ρ:=ρ) h1]
  ·cases h
 |kq b c g n q =>
  unfold CZ at h;simp only at h;split at h
  ·rename_i y g' n' q' h1 h2 h3 h4;cases h;simp only[SO.den,nJ (ρ:=ρ) h2,fe hσ h3];rw[<-fU (ρ:=ρ) h1,TV hσ h4]
  ·cases h
 |rm x c g n =>
  unfold CZ at h;simp only at h;split at h
  ·rename_i y g' n' h1 h2 h3;cases h;simp only[SO.den,nJ (ρ:=ρ) h2,fe hσ h3];rw[(nI (ρ:=ρ) h1).1]
  ·cases h
 |it b m n r st ty =>
  unfold CZ at h;simp only at h;split at h
  ·rename_i y m' n' r' h1 h2 h3 h4;cases h;simp only[SO.den,A7 hσ h2,fe hσ h3,fe hσ h4];rw[<-fU (ρ:=ρ) h1]
  ·cases h
 |bl x m el =>
  unfold CZ at h;simp only at h;split at h
  ·rename_i y m' h1 h2;cases h;obtain⟨e1,_⟩:=nI (ρ:=ρ) h1;obtain⟨_,e2⟩:=nI (ρ:=ρ) h2;simp only[SO.den,e1,e2]
  ·cases h
end
end Go.Rd
namespace Go.Rd
open Go.aK Go.RowKit Go.Rt
def Wd (s:SS):SO->SO->Bool
 |.im b e,.im b' e'=>Nat.beq b b'&&aX s (e.sub e')
 |.km b c g n,.km b' c' g' n'=>Nat.beq b b'&&(Nat.beq c c'&&(Nat.beq g g'&&(aX s (n.sub n')&&aX s (n'.sub n))))
 |.km b c g n,.kq b' c' g' n' _=>Nat.beq b b'&&(Nat.beq c c'&&(Nat.beq g g'&&(aX s (n.sub n')&&aX s (n'.sub n))))
 |.kq b c g n none,.kq b' c' g' n' _=>Nat.beq b b'&&(Nat.beq c c'&&(Nat.beq g g'&&(aX s (n.sub n')&&aX s (n'.sub n))))
 |.rm b c g n,.rm b' c' g' n'=>Nat.beq b b'&&(Nat.beq c c'&&(Nat.beq g g'&&(aX s (n.sub n')&&aX s (n'.sub n))))
 |.it b m n r st ty,.it b' m' n' r' st' ty'=>Nat.beq b b'&&(m.same m'&&(aX s (n.sub n')&&(aX s (n'.sub n)&&(aX s (r.sub r')&&(aX s (r'.sub r)&&((!st||st')&&(!ty||ty')))))))
 |_,_=>false
theorem I2 {ρ:bm}{s:SS}{o x:SO}(hs:Sat ρ s)(hb:Wd s o x=true):(o.den ρ).aY=(x.den ρ).aY/\∀P Φ G Γ,df P Φ G Γ (x.den ρ)->df P Φ G Γ (o.den ρ):=by
 cases o with
 |im b e =>
  cases x<;>first|(cases hb;done)|skip
  rename_i b' e';have hb:(Nat.beq b b'&&aX s (e.sub e'))=true:=hb;rw[za]at hb;have h1:=zab hb.1;subst h1;refine⟨rfl,fun P Φ G Γ ⟨h0,es,h1,h2⟩=>?_⟩;have h3:=av hb.2 hs;rw[LE.au]at h3;refine⟨h0,es,h1,fun p hp=>?_⟩;obtain⟨a1,n,a2,a3⟩:=h2 p hp;exact⟨a1,n,a2,by omega⟩
 |km b c g n =>
  have key:∀{b' c' g':Nat} {n':LE},(Nat.beq b b'&&(Nat.beq c c'&&(Nat.beq g g'&&(aX s (n.sub n')&&aX s (n'.sub n)))))=true->b=b'/\c=c'/\g=g'/\n.ev ρ=n'.ev ρ:=fun hb=>by
   simp only[za]at hb;obtain⟨h1,h2,h3,h4,h5⟩:=hb;have e4:=av h4 hs;have e5:=av h5 hs;rw[LE.au]at e4 e5;exact⟨zab h1,zab h2,zab h3,by omega⟩
  cases x<;>first|(cases hb;done)|skip
  ·obtain⟨rfl,rfl,rfl,e⟩:=key hb;exact⟨rfl,fun P Φ G Γ h=>by simp only[SO.den]at h ⊢;rw[e];exact h⟩
  ·obtain⟨rfl,rfl,rfl,e⟩:=key hb
   exact⟨rfl,fun P Φ G Γ h=>by
    simp only[SO.den]at h ⊢;rw[e];obtain⟨h1,h2,h3,es,h4,h5,h6,h7,_⟩:=h
    exact⟨h1,h2,h3,es,h4,h5,h6,h7⟩⟩
 |rm b c g n =>
  cases x<;>first|(cases hb;done)|skip
  rename_i b' c' g' n';have hb:(Nat.beq b b'&&(Nat.beq c c'&&(Nat.beq g g'&&(aX s (n.sub n')&&aX s (n'.sub n)))))=true:=hb;simp only[za]at hb;obtain⟨h1,h2,h3,h4,h5⟩:=hb;have h1:=zab h1;have h2:=zab h2;have h3:=zab h3;subst h1 h2 h3;have e4:=av h4 hs;have e5:=av h5 hs;rw[LE.au]at e4 e5;have e:n.ev ρ=n'.ev ρ:=by omega
  exact⟨rfl,fun P Φ G Γ h=>by simp only[SO.den]at h ⊢;rw[e];exact h⟩
 |kq b c g n q =>
  cases q with
  |some q=>cases x<;>cases hb
  |none =>
   cases x<;>first|(cases hb;done)|skip
   rename_i b' c' g' n' q';have hb:(Nat.beq b b'&&(Nat.beq c c'&&(Nat.beq g g'&&(aX s (n.sub n')&&aX s (n'.sub n)))))=true:=hb;simp only[za]at hb;obtain⟨h1,h2,h3,h4,h5⟩:=hb;have h1:=zab h1;have h2:=zab h2;have h3:=zab h3;subst h1 h2 h3;have e4:=av h4 hs;have e5:=av h5 hs;rw[LE.au]at e4 e5;have e:n.ev ρ=n'.ev ρ:=by omega
   exact⟨rfl,fun P Φ G Γ h=>by
    simp only[SO.den]at h ⊢;rw[e];obtain⟨h1,h2,h3,es,h4,h5,h6,h7,h8,_⟩:=h
    exact⟨h1,h2,h3,es,h4,h5,h6,h7,h8,fun k r hq=>by cases hq⟩⟩
 |it b m n r st ty =>
  cases x<;>first|(cases hb;done)|skip
  rename_i b' m' n' r' st' ty';have hb:(Nat.beq b b'&&(m.same m'&&(aX s (n.sub n')&&(aX s (n'.sub n)&&(aX s (r.sub r')&&(aX s (r'.sub r)&&((!st||st')&&(!ty||ty'))))))))=true:=hb;simp only[za]at hb;obtain⟨h1,h2,h3,h4,h5,h6,h7,h8⟩:=hb;have h1:=zab h1;subst h1;have e3:=av h3 hs;have e4:=av h4 hs;have e5:=av h5 hs;have e6:=av h6 hs;rw[LE.au]at e3 e4 e5 e6;have e:n.ev ρ=n'.ev ρ:=by omega
  have e':r.ev ρ=r'.ev ρ:=by omega
  refine⟨rfl,fun P Φ G Γ h=>?_⟩;simp only[SO.den]at h ⊢;rw[SC.bc h2 ρ,e,e'];obtain⟨a1,⟨mo,seen,a2,a3,a4,a5,a6⟩,a7⟩:=h;refine⟨a1,⟨mo,seen,a2,a3,a4,a5,fun zm=>a6 ?_⟩,fun hty=>a7 ?_⟩
  ·rw[zm]at h7;simpa using h7
  ·rw[hty]at h8;simpa using h8
 |_=>cases x<;>(cases hb;done)
def uU (s:SS)(o:SO):List SO->Option (List SO)
 | []=>none
 |x::l=>bif o.same x||Wd s o x then some l else (uU s o l).map (x::·)
theorem uV {ρ:bm}{s:SS}{o:SO}(hs:Sat ρ s):∀{l l':List SO},uU s o l=some l'->∃x,(o.den ρ).aY=(x.den ρ).aY/\(∀P Φ G Γ,df P Φ G Γ (x.den ρ)->df P Φ G Γ (o.den ρ))/\l.Perm (l'++[x])
 | [],_,h=>by cases h
 |x::l,l',h=>by
  have h:(bif o.same x||Wd s o x then some l else (uU s o l).map (x::·))=some l':=h;cases hb:(o.same x||Wd s o x)with
  |true =>
   rw[hb]at h;cases h;rw[zaq]at hb;rcases hb with hb|hb
   ·have e:=SO.bc hb ρ;exact⟨x,by rw[e],fun P Φ G Γ h=>by rw[e];exact h,(zcg _ _).symm⟩
   ·exact⟨x,(I2 hs hb).1,(I2 hs hb).2,(zcg _ _).symm⟩
  |false =>
   rw[hb]at h;obtain⟨r,h1,rfl⟩:=map_some h;obtain⟨y,h2,h3,h4⟩:=uV hs h1;exact⟨y,h2,h3,h4.cons _⟩
def yC (Φ:Forms)(s:SS)(σ:Su):SO->Bool
 |.jg x c=>(match σ.get x with|some (.v .ab)=>!Φ.fV c|_=>false)
 |.ul x c g=>(match σ.get x,sI σ g with|some (.v .ab),some g'=>uQ s g'|_,_=>false)
 |_=>false
def Gg (Φ:Forms)(s:SS)(σ:Su):List SO->List SO->Bool
 | [],_=>true
 |o::os,rest=>bif yC Φ s σ o then Gg Φ s σ os rest else (match CZ σ o with
  |some o'=>(match uU s o' rest with|some r=>Gg Φ s σ os r|none=>false)
  |none=>false)
def kJ (σ:Su)(x:Nat):Bool:=match σ.get x with|some (.v .ab)=>true|_=>false
def I3 (s:SS):dW->Bool
 |.el x c e o v=>(match Qd s.ty x c e o with|some w=>v.same w|none=>false)
 |_=>false
def TW (s:SS)(σ:Su)(f:dW):Bool:=(match f with|.sl x _ _=>kJ σ x|_=>false)||(match TU σ f with|some f'=>wK s f'||I3 s f'|none=>false)
def TX (s:SS)(σ:Su)(p:Nat×Nat×Bool):Bool:=match sI σ p.1,sY σ p.2.1 with
 |some g',some d'=>s.gs.any fun q=>Nat.beq q.1 g'&&(Nat.beq q.2.1 d'&&(!p.2.2||q.2.2))
 |_,_=>false
def TY (s:SS)(σ:Su)(e:LE):Bool:=match sE σ e with|some e'=>aX s e'|none=>false
def TZ (s:SS)(σ:Su)(p:Nat×Bool):Bool:=match σ.get p.1 with
 |some (.vr y)=>(match M9 s.bs y with|some b=>b==p.2|none=>false)
 |some (.b be)=>(match kb s be with|some b=>b==p.2|none=>false)
 |_=>false
def Fa (s:SS)(a b:LE):Bool:=a.same b||(aX s (a.sub b)&&aX s (b.sub a))
def T0 (s:SS)(σ:Su)(p:Nat×LE×LE):Bool:=match sE σ p.2.1,sE σ p.2.2 with
 |some j,some w=>aX s j&&(bif kJ σ p.1 then Fa s w j else (match sR σ p.1 with
  |some y=>(match yb s y j with|some w2=>Fa s w2 w|none=>false)
  |none=>false))
 |_,_=>false
def T1 (s:SS)(σ:Su)(p:Nat×SC×LE):Bool:=match sY σ p.1,sC σ p.2.1,sE σ p.2.2 with
 |some d,some x,some e=>s.ats.any fun q=>Nat.beq q.1 d&&(q.2.1.same x&&Fa s q.2.2 e)
 |_,_,_=>false
def Nn (s:SS)(σ:Su)(p:Nat×LE×LE):Bool:=match sY σ p.1,sE σ p.2.1,sE σ p.2.2 with
 |some d,some j,some e=>(match x6 s.dB d j with|some e2=>Fa s e2 e|none=>false)
 |_,_,_=>false
def T3 (s:SS)(σ:Su)(e:LE):Bool:=match sE σ e with|some e'=>Na s e'||(aX s (e'.aO (-1))||aX s ((LE.k (-1)).sub e'))|none=>false
def T4 (s:SS)(σ:Su)(d:Nat):Bool:=match sY σ d with|some y=>s.fz.contains y|none=>false
def T5 (s:SS)(σ:Su)(p:Nat×Nat):Bool:=match sY σ p.1,sI σ p.2 with
 |some d,some g=>(match FT s.sb d with|some g2=>Nat.beq g2 g|none=>false)
 |_,_=>false
def T6 (s:SS)(σ:Su)(p:Nat×SV):Bool:=match sV σ p.2,yL s.L p.1 with
 |some v,some w=>v.same w
 |_,_=>false
def C4 (s0 s:SS)(σ:Su):Bool :=
 σ.l.all (fun p=>p.2.TR s)&&(s0.fs.all (TY s σ)&&(s0.bs.all (TZ s σ)&&(s0.pw.all (T0 s σ)&&(s0.ats.all (T1 s σ)&&(s0.dB.all (Nn s σ)&&(s0.ne.all (T3 s σ)&&(s0.fz.all (T4 s σ)&&s0.sb.all (T5 s σ))))))))
def sub (Φ:Forms)(s0 s:SS)(σ:Su):Bool:=C4 s0 s σ&&(s0.L.all (T6 s σ)&&(Gg Φ s σ s0.os s.os&&(s0.ty.all (TW s σ)&&s0.gs.all (TX s σ))))
section
variable {c:Cx}{T:Tm}{G G':GH}{Γ Γ':dI}{ρ ρ':bm}{s0 s s':SS}{σ:Su}
theorem I4 {f:dW}(h:I3 s f=true)(hk:Ok c T G Γ ρ s):fF c.P c.Φ G Γ (f.den ρ):=by
 cases f with
 |el x cc e o v =>
  unfold I3 at h;simp only at h;split at h
  ·rename_i w hw;obtain⟨e',m1,m2⟩:=n5 hw;have:=hk.ty m1;simp only[dW.den]at this ⊢;rw[m2 ρ,<-SC.bc h ρ]at this;exact this
  ·cases h
 |sl x cc g=>cases h
 |pt x cc g=>cases h
 |mp x cc g=>cases h
theorem pe {a b:LE}(h:Fa s a b=true)(hs:Sat ρ s):a.ev ρ=b.ev ρ:=by
 unfold Fa at h;rw[zaq,za]at h;rcases h with h|⟨h1,h2⟩
 ·exact LE.bc h ρ
 ·have a1:=av h1 hs;have a2:=av h2 hs;rw[LE.au]at a1 a2;omega
theorem oe {x:Nat}(h:kJ σ x=true):(σ.up ρ x).vv=.ab/\(σ.up ρ x).ns=[]:=by
 unfold kJ at h;split at h
 ·rename_i hg;rw[Su.dt hg,Gf];exact⟨rfl,rfl⟩
 ·cases h
theorem lz (h:C4 s0 s σ=true)(hs:Sat ρ s):ju ρ σ/\Sat (σ.up ρ) s0:=by
 unfold C4 at h;simp only[za,zb]at h;obtain⟨h0,h1,h2,h3,h4,h5,h6,h7,h8⟩:=h;have hσ:ju ρ σ:=fun p hp=>Sb.Lg (h0 p hp) hs;refine⟨hσ,fun f hf=>?_,fun p hp=>?_,fun p hp=>?_,fun p hp=>?_,fun p hp=>?_,fun e he=>?_,fun d hd=>?_,fun p hp=>?_⟩
 ·have:=h1 f hf;unfold TY at this;split at this
  ·rename_i e' he;rw[<-fe hσ he];exact av this hs
  ·cases this
 ·have:=h2 p hp;unfold TZ at this;split at this
  ·rename_i y hg;split at this
   ·rename_i b hb;rw[beq_iff_eq]at this;rw[Su.dt hg];show (ρ y).bb=_;rw[hs.bs _ (xZ hb)];exact this
   ·cases this
  ·rename_i be hg;split at this
   ·rename_i b hb;rw[beq_iff_eq]at this;rw[Su.dt hg];show be.ev ρ=_;rw[Nc hb hs];exact this
   ·cases this
  ·cases this
 ·have:=h3 p hp;unfold T0 at this;split at this
  ·rename_i j w hj hw;rw[za]at this;obtain⟨t1,t2⟩:=this;have hpos:=av t1 hs;rw[<-fe hσ hj,<-fe hσ hw];refine⟨hpos,?_⟩;cases hn:kJ σ p.1 with
   |true =>
    rw[hn]at t2;rw[(oe (ρ:=ρ) hn).2,pe t2 hs];simp
   |false =>
    rw[hn]at t2;simp only[cond_false]at t2;split at t2
    ·rename_i y hy;split at t2
     ·rename_i w2 hw2;rw[(nI (ρ:=ρ) hy).2,yd hw2 hs];exact pe t2 hs
     ·cases t2
    ·cases t2
  ·cases this
 ·have:=h4 p hp;unfold T1 at this;split at this
  ·rename_i d x e hd hx he;obtain⟨q,m1,m2⟩:=List.any_eq_true.1 this;simp only[za]at m2;have hA:=hs.ats _ m1;unfold P4 at hA ⊢;have e3:q.2.2.ev ρ=p.2.2.ev (σ.up ρ):=by rw[pe m2.2.2 hs,fe hσ he]
   have e4:q.2.1.den ρ=p.2.1.den (σ.up ρ):=by rw[SC.bc m2.2.1 ρ,A7 hσ hx]
   rw[fU (ρ:=ρ) hd,<-aj m2.1,<-e3,<-e4];exact hA
  ·cases this
 ·have:=h5 p hp;unfold Nn at this;split at this
  ·rename_i d j e hd hj he;split at this
   ·rename_i e2 hl;obtain⟨j',m1,m2⟩:=qC hl;obtain⟨a1,a2,a3⟩:=hs.dB _ m1;have a1:0<=j'.ev ρ:=a1;have a2:(ρ d).gg.fz=true:=a2;have a3:(((ρ d).gg.fl (j'.ev ρ).toNat:Nat):Int)=e2.ev ρ:=a3;have e3:e2.ev ρ=p.2.2.ev (σ.up ρ):=by rw[pe this hs,fe hσ he]
    have e4:j'.ev ρ=p.2.1.ev (σ.up ρ):=by rw[m2 ρ,fe hσ hj]
    rw[fU (ρ:=ρ) hd,<-e3,<-e4];exact⟨a1,a2,a3⟩
   ·cases this
  ·cases this
 ·have:=h6 e he;unfold T3 at this;split at this
  ·rename_i e' hh;rw[<-fe hσ hh];rw[zaq,zaq]at this;rcases this with h|h|h
   ·exact H3 h hs
   ·have:=av h hs;rw[LE.aE]at this;omega
   ·have:=av h hs;rw[LE.au,LE.bk]at this;omega
  ·cases this
 ·have:=h7 d hd;unfold T4 at this;split at this
  ·rename_i y hy;rw[fU (ρ:=ρ) hy];exact hs.fz y (List.contains_iff_mem.1 this)
  ·cases this
 ·have:=h8 p hp;unfold T5 at this;split at this
  ·rename_i d g hd hg;split at this
   ·rename_i g2 hl;have e:=aj this;subst e;have:=hs.sb _ (yj hl);rw[fU (ρ:=ρ) hd,<-nJ (ρ:=ρ) hg];exact this
   ·cases this
  ·cases this
theorem Q.I5 {st:St}{o:Own}{O:List Own}(hq:Q c T G Γ ⟨st.L,O,st.eF,st.gs⟩)(hb:o.aY=none)(ho:df c.P c.Φ G Γ o):Q c T G Γ ⟨st.L,O++[o],st.eF,st.gs⟩:=by
 refine⟨hq.ml,hq.at_,hq.xU,hq.rl,hq.grow,fun x hx=>?_,fun x hx b yn=>?_,?_,hq.ht,hq.ty,hq.gs⟩
 ·rcases List.mem_append.1 hx with hx|hx
  ·exact hq.own x hx
  ·rw[List.mem_singleton.1 hx];exact ho
 ·rcases List.mem_append.1 hx with hx|hx
  ·exact hq.new x hx b yn
  ·rw[List.mem_singleton.1 hx,hb]at yn;cases yn
 ·show (eV (O++[o])).Nodup;rw[fb];have:eV [o]=[]:=by show List.filterMap Own.aY [o]=[];simp[hb]
  rw[this,zbg];exact hq.nd
theorem Ef {o:SO}(h:yC c.Φ s σ o=true)(hσ:ju ρ σ)(hk:Ok c T G Γ ρ s):(o.den (σ.up ρ)).aY=none/\df c.P c.Φ G Γ (o.den (σ.up ρ)):=by
 cases o<;>first|(cases h;done)|skip
 ·rename_i x cc;unfold yC at h;simp only at h;split at h
  ·rename_i hg;rw[zam]at h;have hn:kJ σ x=true:=by unfold kJ;rw[hg]
   obtain⟨e1,e2⟩:=oe (ρ:=ρ) hn;simp only[SO.den,e1,e2];exact⟨rfl,h,zbo _,.inl ⟨rfl,rfl⟩⟩
  ·cases h
 ·rename_i x cc g;unfold yC at h;simp only at h;split at h
  ·rename_i g' hg hg';have hn:kJ σ x=true:=by unfold kJ;rw[hg]
   obtain⟨e1,e2⟩:=oe (ρ:=ρ) hn;simp only[SO.den,e1,e2];refine⟨rfl,?_,zbo _,.inl ⟨rfl,rfl⟩⟩;rw[<-nJ (ρ:=ρ) hg'];exact kH h hk
  ·cases h
theorem Q.swap {L:List (Nat×AV)}{O1 O2:List Own}{a b:Own}{eF:List TF}{gs:List (Nat×Gd×Bool)}(hb:b.aY=a.aY)(ho:df c.P c.Φ G Γ a->df c.P c.Φ G Γ b)(hq:Q c T G Γ ⟨L,O1++a::O2,eF,gs⟩):Q c T G Γ ⟨L,O1++b::O2,eF,gs⟩:=by
 refine⟨hq.ml,hq.at_,hq.xU,hq.rl,hq.grow,fun x hx=>?_,fun x hx b' yn=>?_,?_,hq.ht,hq.ty,hq.gs⟩
 ·rcases List.mem_append.1 hx with hx|hx
  ·exact hq.own x (List.mem_append.2 (.inl hx))
  ·rcases List.mem_cons.1 hx with rfl|hx
   ·exact ho (hq.own a (List.mem_append.2 (.inr (zac ..))))
   ·exact hq.own x (List.mem_append.2 (.inr (zaa _ hx)))
 ·rcases List.mem_append.1 hx with hx|hx
  ·exact hq.new x (List.mem_append.2 (.inl hx)) b' yn
  ·rcases List.mem_cons.1 hx with rfl|hx
   ·exact hq.new a (List.mem_append.2 (.inr (zac ..))) b' (by rw[<-hb];exact yn)
   ·exact hq.new x (List.mem_append.2 (.inr (zaa _ hx))) b' yn
 ·have:=hq.nd;show (eV (O1++b::O2)).Nodup
  have e:eV (O1++b::O2)=eV (O1++a::O2):=by
   unfold eV;rw[zdd,zdd,zdx,zdx,hb]
  rw[e];exact this
theorem yD {st:St}(hσ:ju ρ σ)(hk:Ok c T G Γ ρ s):∀{os rest:List SO}{dn:List Own},Gg c.Φ s σ os rest=true->Q c T G Γ ⟨st.L,rest.map (SO.den ρ)++dn,st.eF,st.gs⟩->Q c T G Γ ⟨st.L,os.map (SO.den (σ.up ρ))++dn,st.eF,st.gs⟩
 | [],rest,dn,_,hq=>hq.iW (fun _ _ h=>h) ⟨rest.map (SO.den ρ),List.perm_append_comm⟩ (fun f h=>h) (fun p h=>h)
 |o::os,rest,dn,h,hq=>by
  have h:(bif yC c.Φ s σ o then Gg c.Φ s σ os rest else (match CZ σ o with
   |some o'=>(match uU s o' rest with|some r=>Gg c.Φ s σ os r|none=>false)
   |none=>false))=true:=h
  cases hn:yC c.Φ s σ o with
  |true =>
   rw[hn]at h;obtain⟨n1,n2⟩:=Ef hn hσ hk;have:=yD hσ hk (st:=st) (dn:=dn++[o.den (σ.up ρ)]) h (by rw[<-zbd];exact Q.I5 hq n1 n2);refine this.iW (fun _ _ h=>h) ⟨[],?_⟩ (fun f h=>h) (fun p h=>h);rw[zbg,<-zbd];exact zcg _ _
  |false =>
   rw[hn]at h;simp only[cond_false]at h;split at h
   ·rename_i o' ho';split at h
    ·rename_i r hr;obtain⟨x,h1,h1',h2⟩:=uV hk.sat hr;have e:o'.den ρ=o.den (σ.up ρ):=C3 hσ ho';have hp:=dR h2 ρ;rw[zar,zbc]at hp
     have:=yD hσ hk (st:=st) (dn:=o'.den ρ::dn) h (Q.swap h1 (h1' _ _ _ _) (hq.iW (fun _ _ h=>h) ⟨[],by
      rw[zbg];have:=hp.append_right dn
      rwa[zbd]at this⟩ (fun f h=>h) (fun p h=>h)))
     refine this.iW (fun _ _ h=>h) ⟨[],?_⟩ (fun f h=>h) (fun p h=>h);rw[zbg,e];exact List.perm_middle
    ·cases h
   ·cases h
theorem I6:∀{l:List (Nat×AV)}{k:Nat}{v:AV},lk l k=some v->(k,v)∈l
 | [],k,v,h=>by cases h
 |p::l,k,v,h=>by
  have h:(bif Nat.beq p.1 k then some p.2 else lk l k)=some v:=h;cases hb:Nat.beq p.1 k with
  |true=>rw[hb]at h;cases h;have:=aj hb;subst this;exact zac ..
  |false=>rw[hb]at h;exact zaa _ (I6 h)
theorem yE (h:sub c.Φ s0 s σ=true)(hk:Ok c T G Γ ρ s):Ok c T G Γ (σ.up ρ) s0:=by
 unfold sub at h;simp only[za]at h;obtain⟨h1,h2,h3,h4,h5⟩:=h;obtain⟨hσ,hsat⟩:=lz h1 hk.sat;refine⟨hsat,?_⟩;have hq:=yD hσ hk (st:=s.den ρ) (dn:=[]) h3 (by rw[zbg];exact hk.q);rw[zbg]at hq;refine⟨hq.ml,fun k v hv=>?_,hq.xU,hq.rl,hq.grow,hq.own,hq.new,hq.nd,hq.ht,fun f hf=>?_,fun p hp=>?_⟩
 ·obtain⟨p,m1,m2⟩:=List.mem_map.1 (I6 hv);cases m2;have:=List.all_eq_true.1 h2 p m1;unfold T6 at this;split at this
  ·rename_i v' w hv' hw;rw[hk.q.at_ _ _ (gH hw),<-SV.bc this ρ,wS hσ hv']
  ·cases this
 ·obtain⟨f0,m1,rfl⟩:=List.mem_map.1 hf;have:=List.all_eq_true.1 h4 f0 m1;unfold TW at this;rw[zaq]at this;rcases this with h|h
  ·cases f0 with
   |sl x cc g =>
    obtain⟨e1,e2⟩:=oe (ρ:=ρ) (show kJ σ x=true from h);simp only[dW.den,e1,e2];exact⟨zbo _,.inl ⟨rfl,rfl⟩⟩
   |pt x cc g=>cases h
   |mp x cc g=>cases h
   |el _ _ _ _ _=>cases h
  ·split at h
   ·rename_i f' hf';rw[<-I1 (ρ:=ρ) hσ hf'];rw[zaq]at h;rcases h with h|h
    ·exact hk.ty (qH h)
    ·exact I4 h hk
   ·cases h
 ·obtain⟨p0,m1,rfl⟩:=List.mem_map.1 hp;have:=List.all_eq_true.1 h5 p0 m1;unfold TX at this;split at this
  ·rename_i g' d' hg hd;obtain⟨q,q1,q2⟩:=List.any_eq_true.1 this;simp only[za,zaq,zam]at q2;obtain⟨k1,k2,k3⟩:=q2;have k1:=aj k1;have k2:=aj k2;obtain⟨t1,t2,t3⟩:=hk.q.gs (ig ρ q.1,(ρ q.2.1).gg,q.2.2) (List.mem_map.2 ⟨q,q1,rfl⟩);rw[k1,k2]at t1 t2 t3;have e1:=nJ (ρ:=ρ) hg;have e2:=fU (ρ:=ρ) hd;refine⟨by rw[<-e1];exact t1,by rw[<-e1,e2];exact t2,fun hw=>?_⟩;have hw:p0.2.2=true:=hw;rcases k3 with k3|k3
   ·rw[hw]at k3;cases k3
   ·have:=t3 k3;rw[<-e1,e2];exact this
  ·cases this
end
end Go.Rd
namespace Go.Rd
open Go.aK Go.RowKit Go.Rt
structure Sp where
 f:Nat
 pre:SS
 ar:List SV
 gD:List (SV×SS)
 str:Nat
 ms:LE
def A8 (ρ:bm)(gs:List (Nat×Nat×Bool)):List Nat:=(gs.filter fun p=>p.2.2).map fun p=>ig ρ p.1
structure In (P:Program) (Φ:Forms) (G:GH) (Γ:dI) (ρ:bm) (s:SS):Prop where
 sat:Sat ρ s
 ht:HT P Φ G Γ
 own:∀o∈s.os,df P Φ G Γ (o.den ρ)
 nd:(eV (s.os.map (SO.den ρ))).Nodup
 ty:∀f∈s.ty,fF P Φ G Γ (f.den ρ)
 gs:∀p∈s.gs,ig ρ p.1<Γ.ng/\Γ.gd (ig ρ p.1)=(ρ p.2.1).gg/\(p.2.2=true->(ρ p.2.1).gg.fz=false/\0<ig ρ p.1)
structure Out (P:Program) (Φ:Forms) (S Sg:List Nat) (G:GH) (Γ:dI) (G':GH) (Γ':dI) (ρ:bm) (s:SS):Prop where
 sat:Sat ρ s
 rl:Rl Φ S Sg G Γ G' Γ'
 ht:HT P Φ G' Γ'
 own:∀o∈s.os,df P Φ G' Γ' (o.den ρ)
 nd:(eV (s.os.map (SO.den ρ))).Nodup
 new:∀o∈s.os,∀b,(o.den ρ).aY=some b->b∈S∨G b=none
 ty:∀f∈s.ty,fF P Φ G' Γ' (f.den ρ)
 gs:∀p∈s.gs,ig ρ p.1<Γ'.ng/\Γ'.gd (ig ρ p.1)=(ρ p.2.1).gg/\(p.2.2=true->(ig ρ p.1∈Sg∨Γ.ng<=ig ρ p.1)/\(ρ p.2.1).gg.fz=false/\0<ig ρ p.1)
def j8 (P:Program)(Φ:Forms)(sp:Sp)(m:Nat):Prop :=
 ∀(ρ:bm) (G:GH) (Γ:dI),In P Φ G Γ ρ sp.pre->(sp.ms.ev ρ).toNat=m ->
  aK.Spec P sp.f (sp.ar.map (SV.den ρ)) G fun v G'=>∃Γ' ρ',∃p∈sp.gD,v=p.1.den ρ'/\dh sp.pre.nx ρ ρ'/\Out P Φ (eV (sp.pre.os.map (SO.den ρ))) (A8 ρ sp.pre.gs) G Γ G' Γ' ρ' p.2
def pF (Φ:Forms)(s:SS)(σ:Su):List SO->List SO->Option (List SO)
 | [],rest=>some rest
 |o::os,rest=>bif yC Φ s σ o then pF Φ s σ os rest else (match CZ σ o with
  |some o'=>(match uU s o' rest with|some r=>pF Φ s σ os r|none=>none)
  |none=>none)
section
variable {c:Cx}{T:Tm}{G G':GH}{Γ Γ':dI}{ρ ρ':bm}{s0 s s':SS}{σ:Su}
theorem rK {st:St}(hσ:ju ρ σ)(hk:Ok c T G Γ ρ s):∀{os rest left:List SO}{dn:List Own},pF c.Φ s σ os rest=some left->Q c T G Γ ⟨st.L,rest.map (SO.den ρ)++dn,st.eF,st.gs⟩->Q c T G Γ ⟨st.L,left.map (SO.den ρ)++(os.map (SO.den (σ.up ρ))++dn),st.eF,st.gs⟩
 | [],rest,left,dn,h,hq=>by cases h;exact hq
 |o::os,rest,left,dn,h,hq=>by
  have h:(bif yC c.Φ s σ o then pF c.Φ s σ os rest else (match CZ σ o with
   |some o'=>(match uU s o' rest with|some r=>pF c.Φ s σ os r|none=>none)
   |none=>none))=some left:=h
  cases hn:yC c.Φ s σ o with
  |true =>
   rw[hn]at h;obtain⟨n1,n2⟩:=Ef hn hσ hk;have:=rK hσ hk (st:=st) (dn:=dn++[o.den (σ.up ρ)]) h (by rw[<-zbd];exact Q.I5 hq n1 n2);refine this.iW (fun _ _ h=>h) ⟨[],?_⟩ (fun f h=>h) (fun p h=>h);rw[zbg];refine List.Perm.append_left _ ?_;rw[<-zbd];exact zcg _ _
  |false =>
   rw[hn]at h;simp only[cond_false]at h;split at h
   ·rename_i o' ho';split at h
    ·rename_i r hr;obtain⟨x,h1,h1',h2⟩:=uV hk.sat hr;have e:o'.den ρ=o.den (σ.up ρ):=C3 hσ ho';have hp:=dR h2 ρ;rw[zar,zbc]at hp
     have:=rK hσ hk (st:=st) (dn:=o'.den ρ::dn) h (Q.swap h1 (h1' _ _ _ _) (hq.iW (fun _ _ h=>h) ⟨[],by
      rw[zbg];have:=hp.append_right dn
      rwa[zbd]at this⟩ (fun f h=>h) (fun p h=>h)))
     refine this.iW (fun _ _ h=>h) ⟨[],?_⟩ (fun f h=>h) (fun p h=>h);rw[zbg,e];exact List.Perm.append_left _ List.perm_middle
    ·cases h
   ·cases h
def cF (σ:Su)(l:List LE):List LE:=l.filterMap (sE σ)
def cB (σ:Su)(l:List (Nat×Bool)):List (Nat×Bool):=l.filterMap fun p=>(sY σ p.1).map fun y=>(y,p.2)
def cP (σ:Su)(l:List (Nat×LE×LE)):List (Nat×LE×LE):=l.filterMap fun p=>match sR σ p.1,sE σ p.2.1,sE σ p.2.2 with|some y,some j,some w=>some (y,j,w)|_,_,_=>none
def cA (σ:Su)(l:List (Nat×SC×LE)):List (Nat×SC×LE):=l.filterMap fun p=>match sY σ p.1,sC σ p.2.1,sE σ p.2.2 with|some y,some x,some e=>some (y,x,e)|_,_,_=>none
def cL (σ:Su)(l:List (Nat×LE×LE)):List (Nat×LE×LE):=l.filterMap fun p=>match sY σ p.1,sE σ p.2.1,sE σ p.2.2 with|some y,some j,some w=>some (y,j,w)|_,_,_=>none
def cZ (σ:Su)(l:List Nat):List Nat:=l.filterMap (sY σ)
def cS (σ:Su)(l:List (Nat×Nat)):List (Nat×Nat):=l.filterMap fun p=>match sY σ p.1,sI σ p.2 with|some y,some g=>some (y,g)|_,_=>none
def cT (σ:Su)(l:List dW):List dW:=l.filterMap (TU σ)
def nK (σ:Su)(ps s:SS)(os:List SO)(gs:List (Nat×Nat×Bool)):SS:=⟨s.nx,s.L,os,cT σ ps.ty++s.ty,gs,cF σ ps.fs++s.fs,cB σ ps.bs++s.bs,cP σ ps.pw++s.pw,cA σ ps.ats++s.ats,cL σ ps.dB++s.dB,cF σ ps.ne++s.ne,cZ σ ps.fz++s.fz,cS σ ps.sb++s.sb⟩
theorem I7 {ps:SS}{os:List SO}{gs:List (Nat×Nat×Bool)}(hσ:ju ρ σ)(hp:Sat (σ.up ρ) ps)(hs:Sat ρ s):Sat ρ (nK σ ps s os gs):=by
 refine⟨fun f hf=>?_,fun p hf=>?_,fun p hf=>?_,fun p hf=>?_,fun p hf=>?_,fun e hf=>?_,fun d hf=>?_,fun p hf=>?_⟩
 ·rcases List.mem_append.1 hf with hf|hf
  ·obtain⟨e,h1,h2⟩:=List.mem_filterMap.1 hf;rw[fe hσ h2];exact hp.fs e h1
  ·exact hs.fs f hf
 ·rcases List.mem_append.1 hf with hf|hf
  ·obtain⟨q,h1,h2⟩:=List.mem_filterMap.1 hf;obtain⟨y,h3,rfl⟩:=map_some h2;have:=hp.bs q h1;rw[fU (ρ:=ρ) h3]at this;exact this
  ·exact hs.bs p hf
 ·rcases List.mem_append.1 hf with hf|hf
  ·obtain⟨q,h1,h2⟩:=List.mem_filterMap.1 hf;split at h2
   ·rename_i y j w a1 a2 a3;cases h2;have:=hp.pw q h1;rw[(nI (ρ:=ρ) a1).2,<-fe hσ a2,<-fe hσ a3]at this;exact this
   ·cases h2
  ·exact hs.pw p hf
 ·rcases List.mem_append.1 hf with hf|hf
  ·obtain⟨q,h1,h2⟩:=List.mem_filterMap.1 hf;split at h2
   ·rename_i y j w a1 a2 a3;cases h2;have:=hp.ats q h1;unfold P4 at this ⊢;rw[fU (ρ:=ρ) a1,<-A7 hσ a2,<-fe hσ a3]at this;exact this
   ·cases h2
  ·exact hs.ats p hf
 ·rcases List.mem_append.1 hf with hf|hf
  ·obtain⟨q,h1,h2⟩:=List.mem_filterMap.1 hf;split at h2
   ·rename_i y j w a1 a2 a3;cases h2;have:=hp.dB q h1;rw[fU (ρ:=ρ) a1,<-fe hσ a2,<-fe hσ a3]at this;exact this
   ·cases h2
  ·exact hs.dB p hf
 ·rcases List.mem_append.1 hf with hf|hf
  ·obtain⟨q,h1,h2⟩:=List.mem_filterMap.1 hf;rw[fe hσ h2];exact hp.ne q h1
  ·exact hs.ne e hf
 ·rcases List.mem_append.1 hf with hf|hf
  ·obtain⟨q,h1,h2⟩:=List.mem_filterMap.1 hf;have:=hp.fz q h1;rw[fU (ρ:=ρ) h2]at this;exact this
  ·exact hs.fz d hf
 ·rcases List.mem_append.1 hf with hf|hf
  ·obtain⟨q,h1,h2⟩:=List.mem_filterMap.1 hf;split at h2
   ·rename_i y g a1 a2;cases h2;have:=hp.sb q h1;rw[fU (ρ:=ρ) a1,<-nJ (ρ:=ρ) a2]at this;exact this
   ·cases h2
  ·exact hs.sb p hf
def Lh (σ:Su):List SO->Option (List SO)
 | []=>some []
 |o::l=>(match CZ σ o,Lh σ l with|some o',some r=>some (o'::r)|_,_=>none)
theorem Eg (hσ:ju ρ σ):∀{l l':List SO},Lh σ l=some l'->l'.map (SO.den ρ)=l.map (SO.den (σ.up ρ))
 | [],_,h=>by cases h;rfl
 |o::l,l',h=>by
  unfold Lh at h;split at h
  ·rename_i o' r h1 h2;cases h;rw[zal,zal,C3 hσ h1,Eg hσ h2]
  ·cases h
def We (σ:Su):List (Nat×Nat×Bool)->Option (List (Nat×Nat×Bool))
 | []=>some []
 |p::l=>(match sI σ p.1,sY σ p.2.1,We σ l with|some g,some d,some r=>some ((g,d,p.2.2)::r)|_,_,_=>none)
theorem I8:∀{l l':List (Nat×Nat×Bool)},We σ l=some l'->(l'.map fun p=>(ig ρ p.1,(ρ p.2.1).gg,p.2.2))=l.map fun p=>(ig (σ.up ρ) p.1,(σ.up ρ p.2.1).gg,p.2.2)
 | [],_,h=>by cases h;rfl
 |p::l,l',h=>by
  unfold We at h;split at h
  ·rename_i g dd r h1 h2 h3;cases h;rw[zal,zal,I8 h3];congr 1;rw[<-nJ (ρ:=ρ) h1,fU (ρ:=ρ) h2]
  ·cases h
def JT:Nat->Nat->Nat->List (Nat×Sb)
 |_,_,0=>[]
 |k,y,n+1=>(k,.vr y)::JT (k+1) (y+1) n
theorem Eh {a b:List (Nat×Sb)}{k:Nat}:yB (a++b) k=match yB a k with|some x=>some x|none=>yB b k:=by
 induction a with
 |nil=>rfl
 |cons p l ih =>
  show (bif Nat.beq p.1 k then some p.2 else yB (l++b) k)=match (bif Nat.beq p.1 k then some p.2 else yB l k)with|some x=>some x|none=>yB b k
  cases Nat.beq p.1 k with
  |true=>rfl
  |false=>exact ih
theorem Ei:∀{n k y j:Nat},yB (JT k y n) j=if k<=j/\j<k+n then some (.vr (y+(j-k)))else none
 |0,k,y,j=>by
  rw[if_neg (by omega)];rfl
 |n+1,k,y,j=>by
  show (bif Nat.beq k j then some (Sb.vr y)else yB (JT (k+1) (y+1) n) j)=_;cases hb:Nat.beq k j with
  |true=>have:=aj hb;subst this;rw[if_pos (by omega)];simp
  |false =>
   have hne:k≠j:=fun e=>by subst e;rw[zcm]at hb;cases hb
   rw[cond_false,Ei];by_cases h:k<=j/\j<k+(n+1)
   ·rw[if_pos h,if_pos (by omega)];congr 2;omega
   ·rw[if_neg h,if_neg (by omega)]
end
end Go.Rd
namespace Go.Rd
open Go.aK Go.RowKit Go.Rt
def Ej (s:SS)(n:Nat):SS:=⟨s.nx+n,s.L,s.os,s.ty,s.gs,s.fs,s.bs,s.pw,s.ats,s.dB,s.ne,s.fz,s.sb⟩
def Sb.lt (n:Nat):Sb->Bool
 |.vr y=>Nat.blt y n|.n e=>e.lt n|.z e=>e.lt n|.b be=>be.lt n|.s x=>x.lt n|.v x=>x.lt n
def QW (s:SS):SS:=⟨s.nx,[],[],s.ty,s.gs,s.fs,s.bs,s.pw,s.ats,s.dB,s.ne,s.fz,s.sb⟩
def T7 (s:SS):List Operand->Option (List SV)
 | []=>some []
 |x::xs=>(match JR s x,T7 s xs with|some v,some l=>some (v::l)|_,_=>none)
def rL (σ:Su):List SV->List SV->Bool
 | [],[]=>true
 |a::as,v::vs=>(match sV σ a with|some a'=>a'.same v|none=>false)&&rL σ as vs
 |_,_=>false
def A9 (gs:List (Nat×Nat×Bool)):Bool:=gs.any fun p=>p.2.2
def pG (Φ:Forms)(sp:Sp)(σ:List (Nat×Sb))(vs:List SV)(s:SS):Option (List SO) :=
 bif sub Φ (QW sp.pre) s ⟨0,σ⟩&&(rL ⟨0,σ⟩ sp.ar vs&&(σ.all (fun p=>Nat.blt p.1 sp.pre.nx&&p.2.lt s.nx)&&((List.range sp.pre.nx).all (fun k=>(yB σ k).isSome)&&s.ok)))then
  (match pF Φ s ⟨0,σ⟩ sp.pre.os s.os with
   |some left=>bif (!A9 sp.pre.gs||left.all K5)&&left.all (fun o=>o.lt s.nx&&o.SM)then some left else none
   |none=>none)
 else none
def kK (sp:Sp)(s:SS):List (Nat×Nat×Bool):=bif A9 sp.pre.gs then mf s else s.gs
def I9 (sp:Sp)(σ:List (Nat×Sb))(left:List SO)(d:Option Nat)(s:SS)(K:SS->R)(p:SV×SS):R :=
 let n:=p.2.nx-sp.pre.nx
 let τ:Su:=⟨0,σ++JT sp.pre.nx s.nx n⟩
 bif p.2.ok&&(Nat.ble sp.pre.nx p.2.nx&&p.1.lt p.2.nx)then
  (match sV τ p.1,Lh τ p.2.os,We τ p.2.gs with
   |some r,some osN,some gsN=>(match d with
    |some d=>K (eG (nK τ p.2 (Ej s n) (left++osN) (gsN++kK sp s)) d r)
    |none=>K (nK τ p.2 (Ej s n) (left++osN) (gsN++kK sp s)))
   |_,_,_=>.bad 300 s)
 else .bad 301 s
def Xr (o:Option SV):SV:=match o with|some r=>r|none=>.undef
def C5:List R->R
 | []=>.ok
 |r::l=>r.and (C5 l)
theorem tw:∀{l:List R},(C5 l).Ok->∀r∈l,r.Ok
 | [],_,r,h=>by cases h
 |x::l,h,r,hr=>by
  obtain⟨h1,h2⟩:=R.eW (show (x.and (C5 l)).Ok from h);rcases List.mem_cons.1 hr with rfl|hr
  ·exact h1
  ·exact tw h2 r hr
section
variable {c:Cx}{T:Tm}{G G':GH}{Γ Γ':dI}{ρ ρ':bm}{s0 s s':SS}{ops:Array Oper}{i d:Nat}{cf:Cf}
theorem Sb.cg {n:Nat}(h:dh n ρ ρ'){b:Sb}(hb:b.lt n=true):b.u ρ'=b.u ρ:=by
 cases b with
 |vr y=>exact h y (ax hb)
 |n e=>simp only[Sb.u];rw[LE.cg h hb]
 |z e=>simp only[Sb.u];rw[LE.cg h hb]
 |b be=>simp only[Sb.u];rw[BE.cg h hb]
 |s x=>simp only[Sb.u];rw[SC.cg h hb]
 |v x =>
  simp only[Sb.u];rw[SC.cg h hb];congr 1;cases x<;>first|rfl|skip
  rename_i y;show (ρ' y).ns=(ρ y).ns;rw[h y (ax hb)]
theorem Sb.Li {n:Nat}(h:dh n ρ ρ'){b:Sb}(hb:b.lt n=true)(hf:b.fit ρ):b.fit ρ':=by
 cases b with
 |n e=>show 0<=e.ev ρ';rw[LE.cg h hb];exact hf
 |s x=>exact hf
 |v x=>exact hf
 |_=>trivial
theorem Ja (hq:Q c T G Γ (s.den ρ)):∀{xs:List Operand}{vs:List SV},T7 s xs=some vs->HJ c.nt T xs (vs.map (SV.den ρ))
 | [],vs,h=>by cases h;trivial
 |x::xs,vs,h=>by
  unfold T7 at h;split at h
  ·rename_i v l h1 h2;cases h;exact⟨rp h1 hq,Ja hq h2⟩
  ·cases h
theorem wT {σ:Su}(hσ:ju ρ σ):∀{as vs:List SV},rL σ as vs=true->vs.map (SV.den ρ)=as.map (SV.den (σ.up ρ))
 | [],[],_=>rfl
 |a::as,v::vs,h=>by
  have h:((match sV σ a with|some a'=>a'.same v|none=>false)&&rL σ as vs)=true:=h;rw[za]at h;obtain⟨h1,h2⟩:=h;split at h1
  ·rename_i a' ha;rw[zal,zal,wT hσ h2,<-SV.bc h1 ρ,wS hσ ha]
  ·cases h1
 | [],_::_,h=>by cases h
 |_::_,[],h=>by cases h
theorem Jb (vs:List SV)(ρ:bm):nW (vs.map (SV.den ρ)):=fun v hv=>by
 obtain⟨x,_,rfl⟩:=List.mem_map.1 hv;exact uL x ρ
theorem Jc {gs:List (Nat×Nat×Bool)}(h:A9 gs=false)(ρ:bm):A8 ρ gs=[]:=by
 unfold A8
 have:gs.filter (fun p=>p.2.2)=[]:=List.filter_eq_nil_iff.2 fun p hp hw=>by
  have:A9 gs=true:=List.any_eq_true.2 ⟨p,hp,hw⟩;rw[h]at this;cases this
 rw[this];rfl
theorem Gi {sp:Sp}{σ:List (Nat×Sb)}{vs:List SV}{left:List SO}{d:Option Nat}{K:SS->R}(hk:Ok c T G Γ ρ s)(hc:pG c.Φ sp σ vs s=some left)(hp:(C5 (sp.gD.map (I9 sp σ left d s K))).Ok) :
  In c.P c.Φ G Γ ((⟨0,σ⟩:Su).up ρ) sp.pre/\vs.map (SV.den ρ)=sp.ar.map (SV.den ((⟨0,σ⟩:Su).up ρ)) /\
  ∀(G':GH) (Γ':dI) (ρ':bm) (p:SV×SS),p∈sp.gD->dh sp.pre.nx ((⟨0,σ⟩:Su).up ρ) ρ'->oj c.n0 G G'->Out c.P c.Φ (eV (sp.pre.os.map (SO.den ((⟨0,σ⟩:Su).up ρ)))) (A8 ((⟨0,σ⟩:Su).up ρ) sp.pre.gs) G Γ G' Γ' ρ' p.2 ->
   ∃ρ2 s2,(K (match d with|some d=>eG s2 d (Xr (sV (⟨0,σ++JT sp.pre.nx s.nx (p.2.nx-sp.pre.nx)⟩:Su) p.1))|none=>s2)).Ok/\dh s.nx ρ ρ2/\s.nx<=s2.nx/\Ok c T G' Γ' ρ2 s2/\(Xr (sV (⟨0,σ++JT sp.pre.nx s.nx (p.2.nx-sp.pre.nx)⟩:Su) p.1)).den ρ2=p.1.den ρ':=by
 unfold pG at hc;cases hb:(sub c.Φ (QW sp.pre) s ⟨0,σ⟩&&(rL ⟨0,σ⟩ sp.ar vs&&(σ.all (fun p=>Nat.blt p.1 sp.pre.nx&&p.2.lt s.nx)&&((List.range sp.pre.nx).all (fun k=>(yB σ k).isSome)&&s.ok))))with
 |false=>rw[hb]at hc;cases hc
 |true =>
  rw[hb]at hc;simp only[cond_true]at hc;simp only[za]at hb;obtain⟨b1,b2,b3,b4,b5⟩:=hb;have hpre:=yE b1 hk
  have hσ:ju ρ ⟨0,σ⟩:=by
   unfold sub at b1;rw[za]at b1;exact (lz b1.1 hk.sat).1
  cases hs:pF c.Φ s ⟨0,σ⟩ sp.pre.os s.os with
  |none=>rw[hs]at hc;cases hc
  |some lf =>
   rw[hs]at hc;simp only at hc;cases hb2:((!A9 sp.pre.gs||lf.all K5)&&lf.all (fun o=>o.lt s.nx&&o.SM))with
   |false=>rw[hb2]at hc;cases hc
   |true =>
    rw[hb2]at hc;cases hc;rw[za]at hb2;have hsp:=rK hσ hk (st:=s.den ρ) (dn:=[]) hs (by rw[zbg];exact hk.q);rw[zbg]at hsp;generalize hρσ:(⟨0,σ⟩:Su).up ρ=ρσ at *;have hnd:=hsp.nd;have hnd:(eV (left.map (SO.den ρ)++sp.pre.os.map (SO.den ρσ))).Nodup:=hnd;rw[fb,List.nodup_append]at hnd;have hgsP:∀p∈sp.pre.gs,ig ρσ p.1<Γ.ng/\Γ.gd (ig ρσ p.1)=(ρσ p.2.1).gg/\(p.2.2=true->(ig ρσ p.1∈c.Sg∨c.Γ0.ng<=ig ρσ p.1)/\(ρσ p.2.1).gg.fz=false/\0<ig ρσ p.1):=fun p hp=>hpre.q.gs (ig ρσ p.1,(ρσ p.2.1).gg,p.2.2) (List.mem_map.2 ⟨p,hp,rfl⟩);refine⟨⟨⟨hpre.sat.fs,hpre.sat.bs,hpre.sat.pw,hpre.sat.ats,hpre.sat.dB,hpre.sat.ne,hpre.sat.fz,hpre.sat.sb⟩,hk.q.ht,fun o ho=>hsp.own _ (zbx _ (List.mem_map.2 ⟨o,ho,rfl⟩)),hnd.2.1,fun f hf=>hpre.q.ty _ (List.mem_map.2 ⟨f,hf,rfl⟩),fun p hp=>?_⟩,by rw[<-hρσ];exact wT hσ b2,fun G' Γ' ρ' p hpp ha hgr ho=>?_⟩
    ·obtain⟨q1,q2,q3⟩:=hgsP p hp;exact⟨q1,q2,fun hw=>(q3 hw).2⟩
    ·have hpc:=tw hp _ (List.mem_map.2 ⟨p,hpp,rfl⟩);unfold I9 at hpc;simp only at hpc;cases hb3:(p.2.ok&&(Nat.ble sp.pre.nx p.2.nx&&p.1.lt p.2.nx))with
     |false=>rw[hb3]at hpc;cases hpc
     |true =>
      rw[hb3]at hpc;simp only[cond_true]at hpc;simp only[za]at hb3;obtain⟨d1,d2,d3⟩:=hb3;have d2:=aN d2;generalize hτ:(⟨0,σ++JT sp.pre.nx s.nx (p.2.nx-sp.pre.nx)⟩:Su)=τ at *
      -- the new values
      obtain⟨ρ2,hρ2⟩:∃ρ2:bm,∀k,ρ2 k=if k<s.nx then ρ k else ρ' (sp.pre.nx+(k-s.nx)):=⟨_,fun _=>rfl⟩
      have A:dh s.nx ρ ρ2:=fun k hk=>by rw[hρ2,if_pos hk]
      have hσlt:∀p∈σ,p.1<sp.pre.nx/\p.2.lt s.nx=true:=fun p hp=>by
       have:=List.all_eq_true.1 b3 p hp;rw[za]at this;exact⟨ax this.1,this.2⟩
      have hget:∀k,τ.get k=yB (σ++JT sp.pre.nx s.nx (p.2.nx-sp.pre.nx)) k:=fun k=>by rw[<-hτ];rfl
      have hτok:ju ρ2 τ:=fun q hq=>by
       rw[<-hτ]at hq;rcases List.mem_append.1 hq with hq|hq
       ·exact Sb.Li A (hσlt q hq).2 (hσ q hq)
       ·have:∀(n k y:Nat),∀q∈JT k y n,q.2.fit ρ2:=fun n=>by
          induction n with
          |zero=>intro k y q h;cases h
          |succ n ih =>
           intro k y q h;rcases List.mem_cons.1 h with rfl|h
           ·trivial
           ·exact ih _ _ q h
        exact this _ _ _ q hq
      have AU:dh p.2.nx ρ' (τ.up ρ2):=fun k hkl=>by
       by_cases hkp:k<sp.pre.nx
       ·have hs2:=List.all_eq_true.1 b4 k (List.mem_range.2 hkp);obtain⟨b,hbk⟩:=Option.isSome_iff_exists.1 hs2;have hg:τ.get k=some b:=by rw[hget,Eh,hbk]
        rw[Su.dt hg,Sb.cg A (hσlt _ (tu hbk)).2]
        have:ρσ k=b.u ρ:=by
         rw[<-hρσ];exact Su.dt (show (⟨0,σ⟩:Su).get k=some b from hbk)
        rw[<-this];exact (ha k hkp).symm
       ·have hn:yB σ k=none:=by
          cases hc:yB σ k with
          |none=>rfl
          |some b=>have:=(hσlt _ (tu hc)).1;exact absurd this (by show ¬k<_;omega)
        have hg:τ.get k=some (.vr (s.nx+(k-sp.pre.nx))):=by rw[hget,Eh,hn,Ei,if_pos (by omega)]
        rw[Su.dt hg];show ρ2 _=_;rw[hρ2,if_neg (by omega)];congr 1;omega
      obtain⟨eP,sP⟩:=SS.cg d1 AU;obtain⟨eS,sS⟩:=SS.cg b5 A;have hsatP:=sP ho.sat;split at hpc
      ·rename_i r osN gsN hr hos hgs;have hgsN:=I8 (ρ:=ρ2) hgs;have hosN:=Eg hτok hos
       have hgA:∀q∈(kK sp s).map (fun p=>(ig ρ p.1,(ρ p.2.1).gg,p.2.2)),q∈(s.den ρ).gs/\Γ'.gd q.1=Γ.gd q.1:=fun q hq=>by
        obtain⟨q0,m1,rfl⟩:=List.mem_map.1 hq;unfold kK at m1;cases hw:A9 sp.pre.gs with
        |false =>
         rw[hw]at m1;have hm:(ig ρ q0.1,(ρ q0.2.1).gg,q0.2.2)∈(s.den ρ).gs:=List.mem_map.2 ⟨q0,m1,rfl⟩;refine⟨hm,ho.rl.gs _ (hk.q.gs _ hm).1 ?_⟩;rw[Jc hw];exact fun h=>by cases h
        |true =>
         rw[hw]at m1;have m2:=(List.mem_filter.1 m1).1;have hm:(ig ρ q0.1,(ρ q0.2.1).gg,q0.2.2)∈(s.den ρ).gs:=List.mem_map.2 ⟨q0,m2,rfl⟩;refine⟨hm,ho.rl.gs _ (hk.q.gs _ hm).1 fun hin=>?_⟩;obtain⟨p0,h1,h2⟩:=List.mem_map.1 hin;obtain⟨h3,h4⟩:=List.mem_filter.1 h1;obtain⟨_,g2,g3⟩:=hgsP p0 h3;have:=(rH (g:=ig ρσ p0.1) hk m1 (by rw[g2];exact (g3 h4).2.1)).2;exact this h2.symm
       have hQ:=hsp.call (osA:=left.map (SO.den ρ)) (osB:=sp.pre.os.map (SO.den ρσ)) (os':=p.2.os.map (SO.den ρ')) (tys':=p.2.ty.map (dW.den ρ')) (gsA:=(kK sp s).map fun p=>(ig ρ p.1,(ρ p.2.1).gg,p.2.2)) (gs':=p.2.gs.map fun p=>(ig ρ' p.1,(ρ' p.2.1).gg,p.2.2)) (Sg:=A8 ρσ sp.pre.gs) (List.Perm.refl _) ho.rl hgr ho.ht
        (fun o h=>by obtain⟨o0,m1,rfl⟩:=List.mem_map.1 h;exact ho.own o0 m1) ho.nd (fun o h b hb=>by obtain⟨o0,m1,rfl⟩:=List.mem_map.1 h;exact ho.new o0 m1 b hb) (fun f h=>by obtain⟨f0,m1,rfl⟩:=List.mem_map.1 h;exact ho.ty f0 m1)
        (fun g hg=>by
         obtain⟨p0,h1,rfl⟩:=List.mem_map.1 hg;obtain⟨h3,h4⟩:=List.mem_filter.1 h1;exact ((hgsP p0 h3).2.2 h4).1) hgA (fun q hq=>by
         obtain⟨q0,m1,rfl⟩:=List.mem_map.1 hq;obtain⟨a1,a2,a3⟩:=ho.gs q0 m1;refine⟨a1,a2,fun hw=>?_⟩;obtain⟨a4,a5⟩:=a3 hw;refine⟨?_,a5⟩;rcases a4 with a4|a4
         ·obtain⟨p0,h1,h2⟩:=List.mem_map.1 a4;obtain⟨h3,h4⟩:=List.mem_filter.1 h1;have:=((hgsP p0 h3).2.2 h4).1;rw[h2]at this;exact this
         ·exact .inr (zay hk.q.rl.le.ng a4)) (fun o h g hg=>by
         obtain⟨o0,m1,rfl⟩:=List.mem_map.1 h
         have hlt:g<Γ.ng:=by
          have hoo:=hsp.own _ (zbz _ (List.mem_map.2 ⟨o0,m1,rfl⟩));cases o0<;>first|(cases hg;done)|skip
          cases hg;exact hoo.2.1
         refine ho.rl.gs g hlt fun hin=>?_;cases hw:A9 sp.pre.gs with
         |false=>rw[Jc hw]at hin;cases hin
         |true =>
          have:=hb2.1;rw[hw]at this;simp only[zd,zcs]at this;have:=List.all_eq_true.1 this o0 m1;cases o0<;>first|(cases hg;done)|skip
          cases this) (fun o h hp=>by
         obtain⟨o0,m1,rfl⟩:=List.mem_map.1 h;rw[SO.HU ((za _ _).mp (List.all_eq_true.1 hb2.2 o0 m1)).2 ρ]at hp
         cases hp)
       have eL:left.map (SO.den ρ2)=left.map (SO.den ρ):=zav fun o ho'=>SO.cg A ((za _ _).mp (List.all_eq_true.1 hb2.2 o ho')).1;refine⟨ρ2,nK τ p.2 (Ej s (p.2.nx-sp.pre.nx)) (left++osN) (gsN++kK sp s),?_,A,by show s.nx<=s.nx+_;omega,⟨I7 hτok hsatP ⟨(sS hk.sat).fs,(sS hk.sat).bs,(sS hk.sat).pw,(sS hk.sat).ats,(sS hk.sat).dB,(sS hk.sat).ne,(sS hk.sat).fz,(sS hk.sat).sb⟩,?_⟩,?_⟩
       ·rw[hr];cases d<;>exact hpc
       ·have hss:=b5;unfold SS.ok at hss;simp only[za,zb]at hss
        have eQ:(nK τ p.2 (Ej s (p.2.nx-sp.pre.nx)) (left++osN) (gsN++kK sp s)).den ρ2=⟨(s.den ρ).L,left.map (SO.den ρ)++p.2.os.map (SO.den ρ'),(cT τ p.2.ty).map (dW.den ρ2)++(s.den ρ).eF,(p.2.gs.map fun p=>(ig ρ' p.1,(ρ' p.2.1).gg,p.2.2))++(kK sp s).map fun p=>(ig ρ p.1,(ρ p.2.1).gg,p.2.2)⟩:=by
         refine St.ext' (by have:=congrArg St.L eS;exact this) ?_ ?_ ?_
         ·show (left++osN).map (SO.den ρ2)=_;rw[zar,eL,hosN];congr 1;have:=congrArg St.os eP;exact this
         ·show (cT τ p.2.ty++s.ty).map (dW.den ρ2)=_;rw[zar];congr 1;have:=congrArg St.eF eS;exact this
         ·show (gsN++kK sp s).map (fun p=>(ig ρ2 p.1,(ρ2 p.2.1).gg,p.2.2))=_;rw[zar,hgsN];congr 1
          ·have:=congrArg St.gs eP;exact this
          ·refine zav fun q hq=>?_
           have hqs:q∈s.gs:=by
            unfold kK at hq;cases hw:A9 sp.pre.gs with
            |false=>rw[hw]at hq;exact hq
            |true=>rw[hw]at hq;exact (List.mem_filter.1 hq).1
           have:=hss.2.2.2.1 q hqs;rw[bR A this.1,A _ (ax this.2)]
        rw[eQ];refine hQ.iW (fun _ _ h=>h) ⟨[],by rw[zbg]⟩ (fun f hf=>?_) (fun p h=>h);rcases List.mem_append.1 hf with hf|hf
        ·obtain⟨f1,m1,rfl⟩:=List.mem_map.1 hf;obtain⟨f0,m2,m3⟩:=List.mem_filterMap.1 m1;refine zbz _ (List.mem_map.2 ⟨f0,m2,?_⟩);rw[I1 (ρ:=ρ2) hτok m3];have hps:=d1;unfold SS.ok at hps;simp only[za,zb]at hps;exact (dW.cg AU (hps.2.2.1 f0 m2)).symm
        ·exact zbx _ hf
       ·rw[hr];show r.den ρ2=_;rw[wS hτok hr];exact SV.cg AU d3
      ·cases hpc
end
end Go.Rd
namespace Go.Rd
open Go.aK Go.RowKit Go.Rt
 abbrev Bd:=List (Nat×Sb)
def iY (base:Nat)(b:Bd)(k:Nat)(x:Sb):Bd:=bif Nat.blt k base then b else match yB b k with|some _=>b|none=>(k,x)::b
def mC (base:Nat)(b:Bd):SC->SC->Bd
 |.int _ ⟨.ofNat 0,[(.ofNat 1,.n k)]⟩,.int _ e=>iY base b k (.n e)
 |.int _ ⟨.ofNat 0,[(.ofNat 1,.z k)]⟩,.int _ e=>iY base b k (.z e)
 |.bool (.v k),.bool be=>iY base b k (.b be)
 |.str k,x=>iY base b k (.s x)
 |.px _ k,.px _ y=>iY base b k (.vr y)
 |.ref k,.ref y=>iY base b k (.vr y)
 |.ref k,x=>iY base b k (.v x)
 |.bZ k _,.bZ y _=>iY base b k (.vr y)
 |.cV k,.cV y=>iY base b k (.vr y)
 |.wA k _,.wA y _=>iY base b k (.vr y)
 |.py k _ _ _,.py y _ _ _=>iY base b k (.vr y)
 |.vb k _,.vb y _=>iY base b k (.vr y)
 |_,_=>b
def SW (base:Nat)(b:Bd):List SC->List SC->Bd
 |x::xs,y::ys=>SW base (mC base b x y) xs ys
 |_,_=>b
def ZR (base:Nat)(b:Bd):List (Bool×List SC)->List (Bool×List SC)->Bd
 |x::xs,y::ys=>ZR base (SW base b x.2 y.2) xs ys
 |_,_=>b
def mV (base:Nat)(b:Bd):SV->SV->Bd
 |.v _ cs,.v _ ds=>SW base b cs ds
 |.cN l,.cN m=>ZR base b l m
 |.wB _ bs cs,.wB _ bs' ds=>SW base (SW base b bs bs') cs ds
 |_,_=>b
def SX (base:Nat)(b:Bd):List SV->List SV->Bd
 |x::xs,y::ys=>SX base (mV base b x y) xs ys
 |_,_=>b
def sX (base:Nat)(b:Bd)(k:Nat):Option Nat:=sR ⟨base,b⟩ k
def mI (base:Nat)(b:Bd)(g g':Nat):Bd:=match g,g' with
 |k+1,y+1=>iY base b k (.vr y)
 |_,_=>b
def ZS:List SO->Option (Nat×Nat)
 | []=>none
 |.am y g _::_=>some (y,g)
 |_::l=>ZS l
def mO (base:Nat)(s:SS)(b:Bd):SO->Bd
 |.loc k _ cs=>(match sX base b k with|some y=>(match jN s.os y with|some (_,ds)=>SW base b cs ds|none=>b)|none=>b)
 |.ul x _ g=>(match sX base b x with|some y=>(match Bv s.os y with|some (.ul _ g')=>mI base b g g'|_=>b)|none=>b)
 |.bl x m _=>(match sX base b x with|some y=>(match Bv s.os y with|some (.bl m' _)=>iY base b m (.vr m')|_=>b)|none=>b)
 |.am k g _=>(match sX base b k with|some y=>(match tn s.os y with|some (.am g' _)=>mI base b g g'|_=>b)|none=>(match ZS s.os with|some (y,g')=>mI base (iY base b k (.vr y)) g g'|none=>b))
 |.km k _ g e=>(match sX base b k with|some y=>(match tn s.os y with|some (.km _ g' e')=>mC base (mI base b g g') (.int .i64 e) (.int .i64 e')|some (.kq _ g' e' _)=>mC base (mI base b g g') (.int .i64 e) (.int .i64 e')|_=>b)|none=>b)
 |.kq k _ g e _=>(match sX base b k with|some y=>(match tn s.os y with|some (.kq _ g' e' _)=>mC base (mI base b g g') (.int .i64 e) (.int .i64 e')|_=>b)|none=>b)
 |.rm x _ g e=>(match sX base b x with|some y=>(match Nj s.os y with|some (_,g',e')=>mC base (mI base b g g') (.int .i64 e) (.int .i64 e')|none=>b)|none=>b)
 |.it k m n r _ _=>(match sX base b k with|some y=>(match Nk s.os y with|some (m',n',r',_,_)=>mC base (mC base (mC base b m m') (.int .i64 n) (.int .i64 n')) (.int .i64 r) (.int .i64 r')|none=>b)|none=>b)
 |.im k e=>(match sX base b k with|some y=>(match tn s.os y with|some (.im e')=>mC base b (.int .i64 e) (.int .i64 e')|_=>b)|none=>b)
 |_=>b
def mT (base:Nat)(s:SS)(b:Bd):dW->Bd
 |.sl x _ g=>(match sX base b x with|some y=>(match oJ s.ty y with|some (_,g')=>mI base b g g'|none=>b)|none=>b)
 |.pt x _ g=>(match sX base b x with|some y=>(match pC s.ty y with|some (_,g')=>mI base b g g'|none=>b)|none=>b)
 |.mp x _ g=>(match sX base b x with|some y=>(match wE s.ty y with|some (_,g')=>mI base b g g'|none=>b)|none=>b)
 |.el _ _ _ _ _=>b
def fG (w:Bool):List (Nat×Nat×Bool)->Option (Nat×Nat×Bool)
 | []=>none
 |p::l=>bif !w||p.2.2 then some p else fG w l
def mG (base:Nat)(s:SS)(b:Bd)(p:Nat×Nat×Bool):Bd:=match sI ⟨base,b⟩ p.1 with
 |some g=>(match fG p.2.2 (s.gs.filter fun q=>Nat.beq q.1 g)with|some q=>iY base b p.2.1 (.vr q.2.1)|none=>b)
 |none=>(match fG p.2.2 s.gs with|some q=>iY base (mI base b p.1 q.1) p.2.1 (.vr q.2.1)|none=>b)
def mS (base:Nat)(s:SS)(b:Bd)(p:Nat×Nat):Bd:=match sY ⟨base,b⟩ p.1 with
 |some d=>(match FT s.sb d with|some g=>mI base b p.2 g|none=>b)
 |none=>b
def mW (base:Nat)(s:SS)(b:Bd)(p:Nat×LE×LE):Bd:=match sR ⟨base,b⟩ p.1,sE ⟨base,b⟩ p.2.1 with
 |some y,some j=>(match yb s y j with|some w=>mC base b (.int .i64 p.2.2) (.int .i64 w)|none=>b)
 |none,some j=>mC base b (.int .i64 p.2.2) (.int .i64 j)
 |_,_=>b
def mA (base:Nat)(s:SS)(b:Bd)(p:Nat×SC×LE):Bd:=match sY ⟨base,b⟩ p.1,sC ⟨base,b⟩ p.2.1 with
 |some d,some x=>(match yg s.ats d x with|some e=>mC base b (.int .i64 p.2.2) (.int .i64 e)|none=>b)
 |_,_=>b
def mL (base:Nat)(s:SS)(b:Bd)(p:Nat×SV):Bd:=match yL s.L p.1 with|some w=>mV base b p.2 w|none=>b
def uW (base:Nat)(s0 s:SS)(b:Bd):Bd :=
 let b:=s0.L.foldl (mL base s) b
 let b:=s0.os.foldl (mO base s) b
 let b:=s0.ty.foldl (mT base s) b
 let b:=s0.gs.foldl (mG base s) b
 let b:=s0.sb.foldl (mS base s) b
 let b:=s0.gs.foldl (mG base s) b
 let b:=s0.os.foldl (mO base s) b
 let b:=s0.pw.foldl (mW base s) b
 s0.ats.foldl (mA base s) b
def QX:SV->Option (Nat×List SC×List SC)
 |.v false [.fn f]=>some (f,[],[])
 |.wB f bs cs=>some (f,bs,cs)
 |_=>none
def GA (l:List SC):List SV:=l.map fun x=>.v false [x]
theorem Ek (ρ:bm)(l:List SC):(GA l).map (SV.den ρ)=aD ρ l:=by
 unfold GA aD;rw[ze];exact zav fun x _=>rfl
structure Rk where
 aH:List Sp
 str:Nat
 ms:LE
def QY (rk:Rk)(sp:Sp)(σ:Su)(s:SS):Bool:=Nat.blt sp.str rk.str||(Nat.beq sp.str rk.str&&(match sE σ sp.ms with|some e=>aX s e&&aX s ((rk.ms.sub e).aO (-1))|none=>false))
def Xs (Φ:Forms)(rk:Rk)(sp:Sp)(vs:List SV)(d:Option Nat)(s:SS)(K:SS->R):R :=
 let σ:=uW 0 sp.pre s (SX 0 [] sp.ar vs)
 match pG Φ sp σ vs s with
  |some left=>bif QY rk sp ⟨0,σ⟩ s then C5 (sp.gD.map (I9 sp σ left d s K))else .bad 310 s
  |none=>.bad 311 s
def Ba (Φ:Forms)(f:Nat)(vs:List SV)(s:SS):List Sp->Option Sp
 | []=>none
 |sp::l=>bif Nat.beq sp.f f&&(pG Φ sp (uW 0 sp.pre s (SX 0 [] sp.ar vs)) vs s).isSome then some sp else Ba Φ f vs s l
theorem wU {Φ:Forms}{f:Nat}{vs:List SV}{s:SS}:∀{l:List Sp}{sp:Sp},Ba Φ f vs s l=some sp->sp∈l/\sp.f=f
 | [],_,h=>by cases h
 |x::l,sp,h=>by
  have h:(bif Nat.beq x.f f&&(pG Φ x (uW 0 x.pre s (SX 0 [] x.ar vs)) vs s).isSome then some x else Ba Φ f vs s l)=some sp:=h;cases hb:(Nat.beq x.f f&&(pG Φ x (uW 0 x.pre s (SX 0 [] x.ar vs)) vs s).isSome)with
  |true=>rw[hb]at h;cases h;rw[za]at hb;exact⟨zac ..,aj hb.1⟩
  |false=>rw[hb]at h;obtain⟨h1,h2⟩:=wU h;exact⟨zaa _ h1,h2⟩
def QZ (cf:Cf)(rk:Rk)(f:Nat)(vs:List SV)(d:Option Nat)(s:SS)(K:SS->R):R:=match Ba cf.Φ f vs s rk.aH with|some sp=>Xs cf.Φ rk sp vs d s K|none=>.bad 312 s
def kL (cf:Cf)(rk:Rk)(fv:SV)(vs:List SV)(d:Option Nat)(s:SS)(K:SS->R):R:=match QX fv with
 |some (f,bs,cs)=>QZ cf rk f (GA bs++(vs++GA cs)) d s K
 |none=>.bad 313 s
section
variable {c:Cx}{T:Tm}{G G':GH}{Γ Γ':dI}{ρ ρ':bm}{s0 s s':SS}{ops:Array Oper}{i d:Nat}{cf:Cf}
def vy (c:Cx)(rk:Rk)(ρ:bm):Prop:=∀sp∈rk.aH,∀m:Nat,(sp.str<rk.str∨(sp.str=rk.str/\(m:Int)<rk.ms.ev ρ))->j8 c.P c.Φ sp m
theorem Q0 {rk:Rk}{fo:Operand}{xs:List Operand}{fv:SV}{vs:List SV}{dd:Option Nat}{K:SS->R}(hΦ:cf.Φ=c.Φ)(hR:vy c rk ρ)(hg:(ae ops i).guard=none)(hd:(ae ops i).dst=dd)(hlt:∀d,dd=some d->d<c.nt)(hc:wx (ae ops i)=some (fo,xs))(hf:a9 c.nt T fo (fv.den ρ))(hv:T7 s xs=some vs)(h:(kL cf rk fv vs dd s K).Ok)(hk:Ok c T G Γ ρ s):Hv c T G Γ ops i s ρ K:=by
 unfold kL at h;cases hfn:QX fv with
 |none=>rw[hfn]at h;cases h
 |some p =>
  obtain⟨f,bs,cs⟩:=p;rw[hfn]at h;have h:(QZ cf rk f (GA bs++(vs++GA cs)) dd s K).Ok:=h;have hev:=Ja hk.q hv;have evs:(GA bs++(vs++GA cs)).map (SV.den ρ)=aD ρ bs++(vs.map (SV.den ρ)++aD ρ cs):=by rw[zar,zar,Ek,Ek]
  have hnfl:=Jb (GA bs++(vs++GA cs)) ρ;rw[evs]at hnfl;unfold QZ at h;rw[hΦ]at h;generalize hvs':GA bs++(vs++GA cs)=vs' at h evs;cases hp:Ba c.Φ f vs' s rk.aH with
  |none=>rw[hp]at h;cases h
  |some sp =>
   rw[hp]at h;obtain⟨hm,hsf⟩:=wU hp
   have hf:a9 c.nt T fo (.func (.func f) (aD ρ bs) (aD ρ cs)):=by
    have:fv.den ρ=.func (.func f) (aD ρ bs) (aD ρ cs):=by
     unfold QX at hfn;split at hfn
     ·cases hfn;rfl
     ·cases hfn;rfl
     ·cases hfn
    rw[<-this];exact hf
   have h:(Xs c.Φ rk sp vs' dd s K).Ok:=h;unfold Xs at h;simp only at h;generalize uW 0 sp.pre s (SX 0 [] sp.ar vs')=σ at h;split at h
   ·rename_i left hco;cases hrk:QY rk sp ⟨0,σ⟩ s with
    |false=>rw[hrk]at h;cases h
    |true =>
     rw[hrk]at h;simp only[cond_true]at h;obtain⟨hin,hargs,hcore⟩:=Gi hk hco h
     have hσ:ju ρ ⟨0,σ⟩:=by
      unfold pG at hco;cases hb:(sub c.Φ (QW sp.pre) s ⟨0,σ⟩&&(rL ⟨0,σ⟩ sp.ar vs'&&(σ.all (fun p=>Nat.blt p.1 sp.pre.nx&&p.2.lt s.nx)&&((List.range sp.pre.nx).all (fun k=>(yB σ k).isSome)&&s.ok))))with
      |false=>rw[hb]at hco;cases hco
      |true =>
       rw[za]at hb;have b1:=hb.1;unfold sub at b1;rw[za]at b1;exact (lz b1.1 hk.sat).1
     have hH:j8 c.P c.Φ sp ((sp.ms.ev ((⟨0,σ⟩:Su).up ρ)).toNat):=by
      refine hR sp hm _ ?_;unfold QY at hrk;rw[zaq,za]at hrk;rcases hrk with hrk|⟨h1,h2⟩
      ·exact .inl (ax hrk)
      ·refine .inr ⟨aj h1,?_⟩;split at h2
       ·rename_i e he;rw[za]at h2;have a1:=av h2.1 hk.sat;have a2:=av h2.2 hk.sat;rw[LE.aE,LE.au]at a2;rw[<-fe hσ he];omega
       ·cases h2
     have hspec:=hH _ G Γ hin rfl;rw[hsf,<-hargs,evs]at hspec;cases hdd:dd with
     |some d =>
      rw[hdd]at hd hlt hcore;refine fI.PY hg hd (hlt d rfl) hc hf hev hnfl hspec fun v G' ⟨Γ',ρ',p,m1,m2,m3,m4⟩ hnf hgr=>⟨rfl,rfl,?_⟩;obtain⟨ρ2,s2,k1,k2,k3,k4,k5⟩:=hcore G' Γ' ρ' p m1 m3 hgr m4;refine⟨Γ',ρ2,_,k1,k2,k3,?_⟩;have:=k4.put (v:=Xr (sV (⟨0,σ++JT sp.pre.nx s.nx (p.2.nx-sp.pre.nx)⟩:Su) p.1)) d;rw[k5,<-m2]at this;exact this
     |none =>
      rw[hdd]at hd hcore;refine fI.KE hg hd hc hf hev hnfl hspec fun v G' ⟨Γ',ρ',p,m1,m2,m3,m4⟩ hgr=>⟨rfl,rfl,?_⟩;obtain⟨ρ2,s2,k1,k2,k3,k4,k5⟩:=hcore G' Γ' ρ' p m1 m3 hgr m4;exact⟨Γ',ρ2,s2,k1,k2,k3,k4⟩
   ·cases h
end
end Go.Rd
namespace Go.Rd
open Go.aK Go.RowKit Go.Rt
theorem rM {k v:AV}:∀{es:List (AV×AV)},∀p∈cy k v es,p.1=k∨∃q∈es,q.1=p.1
 | [],p,h=>by rw[List.mem_singleton.1 h];exact .inl rfl
 |q::es,p,h=>by
  have h:p∈(bif aZ k q.1 then (q.1,v)::es else q::cy k v es):=h;cases hq:aZ k q.1 with
  |true =>
   rw[hq]at h;rcases List.mem_cons.1 h with rfl|h
   ·exact .inr ⟨q,zac ..,rfl⟩
   ·exact .inr ⟨p,zaa _ h,rfl⟩
  |false =>
   rw[hq]at h;rcases List.mem_cons.1 h with rfl|h
   ·exact .inr ⟨p,zac ..,rfl⟩
   ·rcases rM p h with h|⟨r,h1,h2⟩
    ·exact .inl h
    ·exact .inr ⟨r,zaa _ h1,h2⟩
theorem El {pk:KK}{k v:AV}(hk:de pk k):∀{es:List (AV×AV)},(∀p∈es,de pk p.1)->SH es->SH (cy k v es)
 | [],_,_=>List.pairwise_singleton _ _
 |q::es,hf,h=>by
  obtain⟨h1,h2⟩:=List.pairwise_cons.1 h;have hq:=hf q (zac ..);show SH (bif aZ k q.1 then (q.1,v)::es else q::cy k v es);cases hb:aZ k q.1 with
  |true=>exact List.pairwise_cons.2 ⟨h1,h2⟩
  |false =>
   refine List.pairwise_cons.2 ⟨fun p hp=>?_,El hk (fun r hr=>hf r (zaa _ hr)) h2⟩;rcases rM p hp with e|⟨r,m1,e⟩
   ·rw[e,po hq hk];exact hb
   ·rw[<-e];exact h1 r m1
theorem nL:∀(N:Nat)(l:List Nat),l.Nodup->(∀x∈l,x<N)->l.length<=N
 |0,l,_,h=>by
  cases l with
  |nil=>exact zad _
  |cons a l=>exact absurd (h a (zac ..)) (Nat.not_lt_zero _)
 |N+1,l,hn,h=>by
  by_cases hm:N∈l
  ·have h1:=nL N (l.erase N) (hn.erase N) fun x hx=>by
     have:=(hn.mem_erase_iff).1 hx;have:=h x this.2;omega
   rw[List.length_erase_of_mem hm]at h1;have:0<l.length:=List.length_pos_of_mem hm;omega
  ·have:=nL N l hn fun x hx=>by
     have h1:=h x hx;have h2:x≠N:=fun e=>hm (e▸hx);omega
   omega
def Lj (N:Nat):AV->Nat
 |.int _ n=>n.toNat
 |.agg [.int _ a,.int _ b]=>a.toNat*N+b.toNat
 |_=>0
theorem Jd {N:Nat}{pk:KK}{a b:AV}(ha:de pk a)(hb:de pk b)(na:uC N a)(nb:uC N b)(h:Lj N a=Lj N b):aZ a b=true:=by
 cases pk with
 |int =>
  obtain⟨n,rfl⟩:=ha;obtain⟨m,rfl⟩:=hb;have na:0<=n/\n<N:=na;have nb:0<=m/\m<N:=nb;have h:n.toNat=m.toNat:=h;have:n=m:=by omega
  subst this;show (n==n)=true;exact beq_self_eq_true n
 |fy =>
  obtain⟨n,n',rfl⟩:=ha;obtain⟨m,m',rfl⟩:=hb;have na:(0<=n/\n<N)/\0<=n'/\n'<N:=na;have nb:(0<=m/\m<N)/\0<=m'/\m'<N:=nb;have h:n.toNat*N+n'.toNat=m.toNat*N+m'.toNat:=h;have l1:n'.toNat<N:=by omega
  have l2:m'.toNat<N:=by omega
  have e2:n'.toNat=m'.toNat:=by
   have:=congrArg (·%N) h;simp only[Nat.mul_add_mod_of_lt,zcq _ N,Nat.mul_add_mod,zdu l1,zdu l2]at this;exact this
  have e1:n.toNat=m.toNat:=by
   have h':n.toNat*N=m.toNat*N:=by omega
   exact Nat.eq_of_mul_eq_mul_right (by omega) h'
  have:n=m:=by omega
  have:n'=m':=by omega
  subst_vars
  show (_==_&&_==_)=true;simp
 |str=>obtain⟨l,n,rfl⟩:=ha;exact na.elim
 |kz=>obtain⟨l,n,rfl,_⟩:=ha;exact na.elim
 |pair=>obtain⟨l,n,l',n',rfl⟩:=ha;exact na.elim
 |yJ=>obtain⟨l,n,l',n',rfl⟩:=ha;exact na.elim
theorem wV {N M:Nat}{pk:KK}{es:List (AV×AV)}(hk:∀p∈es,de pk p.1)(hn:∀p∈es,uC N p.1)(hd:SH es)(hM:∀a,de pk a->uC N a->Lj N a<M):es.length<=M:=by
 have h:(es.map fun p=>Lj N p.1).length<=M:=nL M _ (by
  refine List.pairwise_map.2 (hd.imp_of_mem fun {p q} hp hq he hpq=>?_);have:=Jd (hk p hp) (hk q hq) (hn p hp) (hn q hq) hpq
  rw[he]at this;cases this) fun x hx=>by
   obtain⟨p,hp,rfl⟩:=List.mem_map.1 hx;exact hM _ (hk p hp) (hn p hp)
 rwa[zde]at h
def Q1 (K:Nat):KK->Nat
 |.int=>K
 |.fy=>K*K
 |_=>0
theorem Lk {N K:Nat}{pk:KK}{es:List (AV×AV)}(hNK:N<=K)(hk:∀p∈es,de pk p.1)(hn:∀p∈es,uC N p.1)(hd:SH es):es.length<=Q1 K pk:=by
 cases pk with
 |int =>
  exact wV hk hn hd fun a ha na=>by
   obtain⟨n,rfl⟩:=ha;have na:0<=n/\n<N:=na;show n.toNat<K;omega
 |fy =>
  exact wV hk hn hd fun a ha na=>by
   obtain⟨n,n',rfl⟩:=ha;have na:(0<=n/\n<N)/\0<=n'/\n'<N:=na;show n.toNat*N+n'.toNat<K*K;have h1:n.toNat+1<=N:=by omega
   have h2:(n.toNat+1)*N<=N*N:=zae _ h1;have h3:N*N<=K*K:=zdq hNK hNK;rw[zau]at h2;omega
 |_ =>
  cases es with
  |nil=>exact zbo _
  |cons p es =>
   have h1:=hk p (zac ..);have h2:=hn p (zac ..)
   first
    |(obtain⟨l,n,e⟩:=h1;rw[e]at h2;exact h2.elim)
    |(obtain⟨l,n,e,_⟩:=h1;rw[e]at h2;exact h2.elim)
    |(obtain⟨l,n,l',n',e⟩:=h1;rw[e]at h2;exact h2.elim)
def Ll (b:Nat):SO->Bool|.kq y _ _ _ _=>Nat.beq y b|_=>false
def spot (cf:Cf)(b:Nat)(k:SV)(r:Option (Bool×List SC))(s:SS)(K:SS->R):R:=match mD (Ll b) s.os with
 |some (.kq _ cc g n _,osA)=>bif eC (cf.Φ.pk cc) k then K (c6 s (osA++[.kq b cc g n (some (k,r))]))else .bad 260 s
 |_=>.bad 261 s
def Np (cf:Cf)(b g:Nat)(mv:MV)(k:SV)(ok:Bool)(zr:Bool×List SC)(s:SS)(K:SV->SS->R):R:=bif bG s.nx g&&(AM s.nx (ghost s.gs g)&&(k.lt s.nx&&Nat.blt b s.nx))then
    (spot cf b k none s (K (jP ok zr))).and (match mv with
     |.kd kd=>pI cf g (ghost s.gs g) (.k 0) kd s fun x _ s=>spot cf b k (some (false,[x])) s (K (qF ok (false,[x])))
     |.kn _ kd=>pI cf g (ghost s.gs g) (.k 0) kd s fun x _ s=>spot cf b k (some (false,[x])) s (K (qF ok (false,[x])))
     |.unit=>spot cf b k (some (true,[])) s (K (qF ok (true,[])))
     |_=>.bad 262 s)
 else .bad 263 s
def ZT (r:Option (Bool×List SC))(ok:Bool)(zr:Bool×List SC)(s:SS)(K:SV->SS->R):R:=match r with|some v=>K (qF ok v) s|none=>K (jP ok zr) s
def T8 (cf:Cf)(b g:Nat)(mv:MV)(q:Option (SV×Option (Bool×List SC)))(k:SV)(ok:Bool)(zr:Bool×List SC)(s:SS)(K:SV->SS->R):R:=match q with
 |some (k',r)=>bif k'.same k then ZT r ok zr s K else Np cf b g mv k ok zr s K
 |none=>Np cf b g mv k ok zr s K
def Q2 (cf:Cf)(t:TypeId)(m k:SV)(ok:Bool)(s:SS)(K:SV->SS->R):R:=match m with
 |.v false [.cV b]=>(match cf.P.underlying t,tn s.os b with
  |some (.map kt et),some (.kq cc g _ q)=>(match (zeroOf cf.P et).bind tg with
   |some (.v ag cs)=>bif gl cf kt (cf.Φ.pk cc)&&eC (cf.Φ.pk cc) k then T8 cf b g (cf.Φ.mv cc) q k ok (ag,cs) s K else .bad 264 s
   |_=>.bad 265 s)
  |_,_=>TK cf t m k ok s K)
 |_=>TK cf t m k ok s K
section
variable {c:Cx}{T:Tm}{G:GH}{Γ:dI}{ρ ρ':bm}{s s':SS}{cf:Cf}{ops:Array Oper}{i d:Nat}
theorem Ok.ZU {osA:List SO}{o o':SO}(hk:Ok c T G Γ ρ s)(hr:s.os.Perm (osA++[o]))(hb:(o'.den ρ).aY=(o.den ρ).aY)(h:df c.P c.Φ G Γ (o.den ρ)->df c.P c.Φ G Γ (o'.den ρ)):Ok c T G Γ ρ (c6 s (osA++[o'])):=by
 refine Ok.K8 hk ?_;have hpd:=dR hr ρ;rw[zar,zbc]at hpd;have hq:=hk.q;have hm:∀x,x∈osA.map (SO.den ρ)++[o.den ρ]->x∈(s.den ρ).os:=fun x hx=>hpd.mem_iff.2 hx;refine⟨hq.ml,hq.at_,hq.xU,hq.rl,hq.grow,fun x hx=>?_,fun x hx b yn=>?_,?_,hq.ht,hq.ty,hq.gs⟩
 ·rcases List.mem_append.1 hx with hx|hx
  ·exact hq.own x (hm x (zbz _ hx))
  ·rw[List.mem_singleton.1 hx];exact h (hq.own _ (hm _ (zbx _ (zbr _))))
 ·rcases List.mem_append.1 hx with hx|hx
  ·exact hq.new x (hm x (zbz _ hx)) b yn
  ·rw[List.mem_singleton.1 hx,hb]at yn;exact hq.new _ (hm _ (zbx _ (zbr _))) b yn
 ·have h1:(eV (osA.map (SO.den ρ)++[o.den ρ])).Nodup:=(hpd.filterMap _).nodup hq.nd
  have e:eV (osA.map (SO.den ρ)++[o'.den ρ])=eV (osA.map (SO.den ρ)++[o.den ρ]):=by
   unfold eV;simp only[zdd,zdx,List.filterMap_nil,hb]
  show (eV (osA.map (SO.den ρ)++[o'.den ρ])).Nodup;rw[e];exact h1
theorem og {b:Nat}{k:SV}{r:Option (Bool×List SC)}{K:SS->R}(hΦ:cf.Φ=c.Φ)(h:(spot cf b k r s K).Ok)(hk:Ok c T G Γ ρ s)(hf:∀es,G (ρ b).nn=some (.map es)->cn (k.den ρ) es=r.map (cj ρ)):∃s',s'.nx=s.nx/\(K s').Ok/\Ok c T G Γ ρ s':=by
 unfold spot at h;split at h
 ·rename_i y cc g n q osA hr;obtain⟨r1,r2⟩:=eK hr;have e4:y=b:=aj r1;subst e4;cases hb:eC (cf.Φ.pk cc) k with
  |false=>rw[hb]at h;cases h
  |true =>
   rw[hb]at h;rw[hΦ]at hb;have h:(K (c6 s (osA++[.kq y cc g n (some (k,r))]))).Ok:=h;refine⟨c6 s (osA++[.kq y cc g n (some (k,r))]),rfl,h,Ok.ZU (o:=.kq y cc g n q) (o':=.kq y cc g n (some (k,r))) hk r2 rfl fun⟨o1,o2,o3,es,o4,o5,o6,o7,o8,_⟩=>⟨o1,o2,o3,es,o4,o5,o6,o7,o8,fun k' r' hq=>?_⟩⟩;cases hq;exact⟨ew hb ρ,hf es o4⟩
 ·cases h
theorem Je {b g cc:Nat}{k:SV}{ok:Bool}{zr:Bool×List SC}{K:SV->SS->R}{z:AV}{es:List (AV×AV)}(hΦ:cf.Φ=c.Φ)(h:(Np cf b g (c.Φ.mv cc) k ok zr s K).Ok)(hk:Ok c T G Γ ρ s)(hz:∀ρ,cj ρ zr=z)(hG:G (ρ b).nn=some (.map es))(hM:dA c.P c.Φ G Γ cc (ig ρ g) es)
  (hl:ba c.P ops c.n0 c.nt i T .e (aK.z 0) G (match cn (k.den ρ) es with|some v=>(if ok then .cN [v,.bool true]else v)|none=>(if ok then .cN [z,.bool false]else z))):Lo c T G Γ ops i s ρ K:=by
 obtain⟨hkeys,hM⟩:=hM;unfold Np at h;cases hb:(bG s.nx g&&(AM s.nx (ghost s.gs g)&&(k.lt s.nx&&Nat.blt b s.nx)))with
 |false=>rw[hb]at h;cases h
 |true =>
  rw[hb]at h;simp only[cond_true]at h;simp only[za]at hb;obtain⟨b1,b2,b3,b4⟩:=hb;obtain⟨h1,h2⟩:=R.eW h;have one:∀{es'},G (ρ b).nn=some (.map es')->es'=es:=fun h=>by rw[hG]at h;cases h;rfl
  cases hf:cn (k.den ρ) es with
  |none =>
   rw[hf]at hl;obtain⟨s',n1,k1,o1⟩:=og hΦ h1 hk fun es' he=>by rw[one he,hf];rfl
   exact Lo.to n1 (Lo.here o1 k1 (by rw[iX,hz];exact hl))
  |some v =>
   rw[hf]at hl;obtain⟨p,m1,rfl⟩:=iH hf
   have key:∀{kd:K2},(∀p∈es,∃fs,Kv c.Φ (Γ.gd (ig ρ g)) (ig ρ g) 0 kd p.2 fs/\∀f∈fs,fF c.P c.Φ G Γ f)->(pI cf g (ghost s.gs g) (.k 0) kd s fun x _ s=>spot cf b k (some (false,[x])) s (K (qF ok (false,[x])))).Ok->Lo c T G Γ ops i s ρ K:=by
    intro kd hM h2;obtain⟨fs,kv,kf⟩:=hM p m1;obtain⟨ρ',s',a1,n1,o1,x,o,g1,g2,_⟩:=pB h2 hΦ hk b1 (J:=0) (fun dv hd=>⟨by have:=b2;rw[hd]at this;exact ax this,bz hd hk⟩) ⟨rfl,by rw[LE.bk];exact zby _,by rw[LE.bk];rfl⟩ kv kf
    obtain⟨s2,n2,k2,o2⟩:=og hΦ g1 o1 fun es' he=>by
     rw[a1 b (ax b4)]at he;rw[one he,SV.cg a1 b3,hf];show some p.2=some (cj ρ' (false,[x]));rw[show cj ρ' (false,[x])=p.2 from g2]
    refine fO.mk a1 (by omega) o2 ⟨_,k2,?_⟩;rw[iQ];show ba _ _ _ _ _ _ _ _ _ (if ok then .cN [x.den ρ',.bool true]else x.den ρ');rw[g2];exact hl
   cases hmv:c.Φ.mv cc with
   |kd kd=>rw[hmv]at h2 hM;exact key hM h2
   |kn bd kd=>rw[hmv]at h2 hM;exact key hM.2 h2
   |unit =>
    rw[hmv]at h2 hM;obtain⟨s',n1,k1,o1⟩:=og hΦ h2 hk fun es' he=>by rw[one he,hf,hM p m1];rfl
    refine Lo.to n1 (Lo.here o1 k1 ?_);rw[iQ];rw[hM p m1]at hl;exact hl
   |FM q=>rw[hmv]at h2;cases h2
   |DD=>rw[hmv]at h2;cases h2
theorem Jf {b g cc:Nat}{k:SV}{ok:Bool}{zr:Bool×List SC}{K:SV->SS->R}{es:List (AV×AV)}(hΦ:cf.Φ=c.Φ)(h:(Np cf b g (c.Φ.mv cc) k ok zr s K).Ok)(hk:Ok c T G Γ ρ s)(hG:G (ρ b).nn=some (.map es))(hM:dA c.P c.Φ G Γ cc (ig ρ g) es):∃ρ' s',dh s.nx ρ ρ'/\s.nx<=s'.nx/\Ok c T G Γ ρ' s'/\∃v,(K v s').Ok:=by
 obtain⟨hkeys,hM⟩:=hM;unfold Np at h;cases hb:(bG s.nx g&&(AM s.nx (ghost s.gs g)&&(k.lt s.nx&&Nat.blt b s.nx)))with
 |false=>rw[hb]at h;cases h
 |true =>
  rw[hb]at h;simp only[cond_true]at h;simp only[za]at hb;obtain⟨b1,b2,b3,b4⟩:=hb;obtain⟨h1,h2⟩:=R.eW h;have one:∀{es'},G (ρ b).nn=some (.map es')->es'=es:=fun h=>by rw[hG]at h;cases h;rfl
  cases hf:cn (k.den ρ) es with
  |none =>
   obtain⟨s',n1,k1,o1⟩:=og hΦ h1 hk fun es' he=>by rw[one he,hf];rfl
   exact⟨ρ,s',dh.refl _ _,by omega,o1,_,k1⟩
  |some v =>
   obtain⟨p,m1,rfl⟩:=iH hf
   have key:∀{kd:K2},(∀p∈es,∃fs,Kv c.Φ (Γ.gd (ig ρ g)) (ig ρ g) 0 kd p.2 fs/\∀f∈fs,fF c.P c.Φ G Γ f)->(pI cf g (ghost s.gs g) (.k 0) kd s fun x _ s=>spot cf b k (some (false,[x])) s (K (qF ok (false,[x])))).Ok->∃ρ' s',dh s.nx ρ ρ'/\s.nx<=s'.nx/\Ok c T G Γ ρ' s'/\∃v,(K v s').Ok:=by
    intro kd hM h2;obtain⟨fs,kv,kf⟩:=hM p m1;obtain⟨ρ',s',a1,n1,o1,x,o,g1,g2,_⟩:=pB h2 hΦ hk b1 (J:=0) (fun dv hd=>⟨by have:=b2;rw[hd]at this;exact ax this,bz hd hk⟩) ⟨rfl,by rw[LE.bk];exact zby _,by rw[LE.bk];rfl⟩ kv kf
    obtain⟨s2,n2,k2,o2⟩:=og hΦ g1 o1 fun es' he=>by
     rw[a1 b (ax b4)]at he;rw[one he,SV.cg a1 b3,hf];show some p.2=some (cj ρ' (false,[x]));rw[show cj ρ' (false,[x])=p.2 from g2]
    exact⟨ρ',s2,a1,by omega,o2,_,k2⟩
   cases hmv:c.Φ.mv cc with
   |kd kd=>rw[hmv]at h2 hM;exact key hM h2
   |kn bd kd=>rw[hmv]at h2 hM;exact key hM.2 h2
   |unit =>
    rw[hmv]at h2 hM;obtain⟨s',n1,k1,o1⟩:=og hΦ h2 hk fun es' he=>by rw[one he,hf,hM p m1];rfl
    exact⟨ρ,s',dh.refl _ _,by omega,o1,_,k1⟩
   |FM q=>rw[hmv]at h2;cases h2
   |DD=>rw[hmv]at h2;cases h2
theorem Lm {t:TypeId}{x y:Operand}{v u:SV}{ok:Bool}{K:SV->SS->R}(ho:(ae ops i).op=.lookup t x y ok)(hg:(ae ops i).guard=none)(hP:cf.P=c.P)(hΦ:cf.Φ=c.Φ)(hK:dJ cf)(h:(Q2 cf t v u ok s K).Ok)(hk:Ok c T G Γ ρ s)(hx:a9 c.nt T x (v.den ρ))(hy:a9 c.nt T y (u.den ρ)):Lo c T G Γ ops i s ρ K:=by
 unfold Q2 at h;split at h
 ·rename_i b;have hx:a9 c.nt T x (.cV (ρ b).nn):=hx;split at h
  ·rename_i kt et cc g n q hu hw;have hu0:=hu;rw[hP]at h hu;split at h
   ·rename_i ag cs hz;cases hzz:zeroOf c.P et with
    |none=>rw[hzz]at hz;cases hz
    |some zz =>
     rw[hzz]at hz;have hz:tg zz=some (.v ag cs):=hz;have hz1:∀ρ,cj ρ (ag,cs)=zz:=fun ρ=>kD hz ρ;have hown:=hk.own (dS hw);rw[hΦ]at h;cases hb:(gl cf kt (c.Φ.pk cc)&&eC (c.Φ.pk cc) u)with
     |false=>rw[hb]at h;cases h
     |true =>
      rw[hb]at h;rw[za]at hb;have hMt:=gm hb.1 hK;rw[hP]at hMt;obtain⟨o1,o2,o3,es,o4,o5,o6,o7,o8,o9⟩:=hown;have hl:=ba.lookup (n0:=c.n0) (nt:=c.nt) (T:=T) (hp:=.e) (nx:=aK.z 0) hg ho hu hzz hMt hx hy (ew hb.2 ρ) o4 o7.1;have h:(T8 cf b g (c.Φ.mv cc) q u ok (ag,cs) s K).Ok:=h;cases q with
      |none=>exact Je hΦ h hk hz1 o4 o7 hl
      |some p =>
       obtain⟨k',r⟩:=p;have h:(bif k'.same u then ZT r ok (ag,cs) s K else Np cf b g (c.Φ.mv cc) u ok (ag,cs) s K).Ok:=h;cases hs:k'.same u with
       |false=>rw[hs]at h;exact Je hΦ h hk hz1 o4 o7 hl
       |true =>
        rw[hs]at h;obtain⟨_,hf⟩:=o9 (k'.den ρ) (r.map (cj ρ)) rfl;rw[SV.bc hs ρ]at hf;rw[hf]at hl;cases r with
        |none=>exact Lo.here hk h (by rw[iX,hz1];exact hl)
        |some v=>exact Lo.here hk h (by rw[iQ];exact hl)
   ·cases h
  ·exact CO ho hg hP hΦ hK h hk hx hy
 ·exact CO ho hg hP hΦ hK h hk hx hy
end
end Go.Rd
namespace Go.Rd
open Go.aK Go.RowKit Go.Rt
def SY (b cc g:Nat)(n:LE)(osA:List SO)(k:SV)(vc:Bool×List SC)(s:SS)(K:SS->R):R:=fresh s fun x s'=>K (aF (aF (c6 s' (osA++[.kq b cc g (.a (.n x)) (some (k,some vc))])) ((LE.a (.n x)).sub n)) ((n.aO 1).sub (.a (.n x))))
def Wg (b cc g:Nat)(n:LE)(q:Option (SV×Option (Bool×List SC)))(osA:List SO)(k:SV)(vc:Bool×List SC)(s:SS)(K:SS->R):R:=match q with
 |some (k',none)=>bif k'.same k then K (c6 s (osA++[.kq b cc g (n.aO 1) (some (k,some vc))]))else SY b cc g n osA k vc s K
 |some (k',some _)=>bif k'.same k then K (c6 s (osA++[.kq b cc g n (some (k,some vc))]))else SY b cc g n osA k vc s K
 |none=>SY b cc g n osA k vc s K
def Em (s:SS)(g bd:Nat)(k:SV):Bool:=match ghost s.gs g,k with
 |some d,.v false [.int _ e]=>aX s e&&aX s (((LE.a (.gn d bd)).sub e).aO (-1))
 |some d,.v true [.int _ a,.int _ b]=>(aX s a&&aX s (((LE.a (.gn d bd)).sub a).aO (-1)))&&(aX s b&&aX s (((LE.a (.gn d bd)).sub b).aO (-1)))
 |_,_=>false
def ZV (cf:Cf)(t:TypeId)(b cc g:Nat)(n:LE)(q:Option (SV×Option (Bool×List SC)))(osA:List SO)(k v:SV)(s:SS)(K:SS->R):R:=match cf.P.underlying t with
 |some (.map kt et)=>bif gl cf kt (cf.Φ.pk cc)&&(eC (cf.Φ.pk cc) k&&(n.lt s.nx&&(aX s n&&(Nat.blt b s.nx&&(k.lt s.nx&&v.lt s.nx)))))then
  (match cf.Φ.mv cc,v with
   |.kd kd,.v false [x]=>(match mB cf s g (ghost s.gs g) (.k 0) kd x with|some _=>Wg b cc g n q osA k (false,[x]) s K|none=>.bad 270 s)
   |.kn bd kd,.v false [x]=>bif Em s g bd k then (match mB cf s g (ghost s.gs g) (.k 0) kd x with|some _=>Wg b cc g n q osA k (false,[x]) s K|none=>.bad 270 s)else .bad 274 s
   |.unit,.v true []=>Wg b cc g n q osA k (true,[]) s K
   |_,_=>.bad 271 s)
  else .bad 272 s
 |_=>.bad 273 s
def Q3 (cf:Cf)(t:TypeId)(m k v:SV)(s:SS)(K:SS->R):R:=match m with
 |.v false [.cV b]=>(match mD (Ll b) s.os with
  |some (.kq _ cc g n q,osA)=>ZV cf t b cc g n q osA k v s K
  |_=>K6 cf t m k v s K)
 |_=>K6 cf t m k v s K
def Jg (cf:Cf)(b K:Nat)(s:SS)(Kt:SS->R):R:=match mD (Ll b) s.os with
 |some (.kq _ cc g n _,_)=>(match cf.Φ.mv cc,ghost s.gs g with
  |.kn bd _,some d=>bif aX s ((LE.k (.ofNat K)).sub (.a (.gn d bd)))&&aX s n then Kt (aF s ((LE.k (.ofNat (Q1 K (cf.Φ.pk cc)))).sub n))else .bad 275 s
  |_,_=>.bad 276 s)
 |_=>.bad 277 s
def C6 (cf:Cf)(b:Nat)(k:SV)(s:SS)(Kt:SS->R):R:=match tn s.os b with
 |some (.kq cc g _ _)=>bif eC (cf.Φ.pk cc) k then Np cf b g (cf.Φ.mv cc) k false (false,[.ab]) s (fun _ s=>Kt s)else .bad 279 s
 |_=>.bad 279 s
def Q4 (cf:Cf)(y:Nat)(s:SS)(Kt:SS->R):R:=match wE s.ty y with
 |some (cc,g)=>bif cf.Φ.im cc&&(Nat.blt y s.nx&&bG s.nx g)then fresh s fun n s=>Kt (fN s (.rm y cc g (.a (.n n))))else .bad 289 s
 |none=>.bad 289 s
def Jh (b:Nat)(s:SS)(Kt:SS->R):R:=match mD (Ll b) s.os with
 |some (.kq _ cc g n _,osA)=>Kt (c6 s (osA++[.km b cc g n]))
 |_=>.bad 278 s
section
variable {c:Cx}{T:Tm}{G:GH}{Γ:dI}{ρ ρ':bm}{s s':SS}{cf:Cf}{ops:Array Oper}{i d:Nat}
theorem Ji {g bd:Nat}{k:SV}(h:Em s g bd k=true)(hk:Ok c T G Γ ρ s):uC ((Γ.gd (ig ρ g)).n bd) (k.den ρ):=by
 have lt:∀{d:Nat} {e:LE},aX s e=true->aX s (((LE.a (.gn d bd)).sub e).aO (-1))=true->0<=e.ev ρ/\e.ev ρ<(((ρ d).gg.n bd:Nat):Int):=fun h1 h2=>by
  have e1:=av h1 hk.sat;have e2:=av h2 hk.sat;rw[LE.aE,LE.au,LE.aV]at e2;have e2:0<=(((ρ _).gg.n bd:Nat):Int)-_+-1:=e2;exact⟨e1,by omega⟩
 unfold Em at h;split at h
 ·rename_i d kd e hgd;rw[za]at h;rw[bz hgd hk];exact lt h.1 h.2
 ·rename_i d kd a kd' b hgd;simp only[za]at h;rw[bz hgd hk];exact⟨lt h.1.1 h.1.2,lt h.2.1 h.2.2⟩
 ·cases h
theorem Jj {b cc g:Nat}{n n':LE}{q:Option (SV×Option (Bool×List SC))}{osA:List SO}{k v:SV}{vc:Bool×List SC}{es:List (AV×AV)}(hk:Ok c T G Γ ρ s)(hr:s.os.Perm (osA++[.kq b cc g n q]))(hG:G (ρ b).nn=some (.map es))(hkf:de (c.Φ.pk cc) (k.den ρ))(hvc:v.den ρ=cj ρ vc)
  (hn:(n'.ev ρ).toNat=(cy (k.den ρ) (v.den ρ) es).length) (hok:JQ (c.Φ.mv cc)=true->dA c.P c.Φ G Γ cc (ig ρ g) es->dA c.P c.Φ G Γ cc (ig ρ g) (cy (k.den ρ) (v.den ρ) es)):Ok c T (fx G (ρ b).nn (.map (cy (k.den ρ) (v.den ρ) es))) Γ ρ (c6 s (osA++[.kq b cc g n' (some (k,some vc))])):=by
 obtain⟨o1,o2,o3,es',o4,o5,o6,o7,o8,o9⟩:=hk.own (hr.mem_iff.2 (by simp:SO.kq b cc g n q∈osA++[.kq b cc g n q]));have e:es'=es:=by rw[hG]at o4;cases o4;rfl
 subst e;have hnf:nf (v.den ρ):=uL v ρ;have hpd:=dR hr ρ;rw[zar,zbc]at hpd
 have hQ:=hk.q.vu (b:=(ρ b).nn) (G':=fx G (ρ b).nn (.map (cy (k.den ρ) (v.den ρ) es'))) (Γ':=Γ) (osA:=osA.map (SO.den ρ)) (o:=SO.den ρ (.kq b cc g n q)) (o':=SO.den ρ (.kq b cc g n' (some (k,some vc)))) (tys':=[]) hpd (dP (.inl (by rw[hG];rfl))) (fun _ _=>rfl) (fun k h=>dH h) (by rw[aA];rfl)
  (fun _ _ _ h=>by rw[hG]at h;cases h) (fun _ _ _ h=>by rw[hG]at h;cases h) (fun x h=>by rw[o1]at h;cases h) rfl rfl (.inl rfl) rfl (fun x _ _ h=>by rw[o1]at h;cases h)
  (fun hr' hl'=>?_) (fun f h=>by cases h)
 ·exact Ok.K8 hk hQ
 ·refine⟨o1,o2,o3,cy (k.den ρ) (v.den ρ) es',aA _ _ _,hn.symm,fun p hp=>?_,(hok o3 o7).Gw o3 hr' hl' o2,El hkf o7.1 o8,fun k' r' hq=>?_⟩
  ·rcases eU hp with h|h
   ·rw[h];exact hnf
   ·exact o6 p h
  ·cases hq;refine⟨hkf,?_⟩;rw[rb hkf hkf o7.1,if_pos (uy hkf),hvc];rfl
theorem C7 {t kt et:TypeId}{ym yk yv:Operand}{b cc g:Nat}{n:LE}{q:Option (SV×Option (Bool×List SC))}{osA:List SO}{k v:SV}{vc:Bool×List SC}{K:SS->R}(ho:(ae ops i).op=.mapUpdate t ym yk yv)(hg:(ae ops i).guard=none)(hd:(ae ops i).dst=none)(hu:c.P.underlying t=some (.map kt et))(hM:lj c.P kt (c.Φ.pk cc))(hk:Ok c T G Γ ρ s)(hm:a9 c.nt T ym (.cV (ρ b).nn))(hkk:a9 c.nt T yk (k.den ρ))(hv:a9 c.nt T yv (v.den ρ))(hks:de (c.Φ.pk cc) (k.den ρ))
  (hr:s.os.Perm (osA++[.kq b cc g n q])) (hnl:n.lt s.nx=true) (hn0:0<=n.ev ρ) (hbl:b<s.nx) (hkl:k.lt s.nx=true) (hvl:v.lt s.nx=true) (hvc:∀ρ,v.den ρ=cj ρ vc) (h:(Wg b cc g n q osA k vc s K).Ok)
  (hok:∀es,JQ (c.Φ.mv cc)=true->dA c.P c.Φ G Γ cc (ig ρ g) es->dA c.P c.Φ G Γ cc (ig ρ g) (cy (k.den ρ) (v.den ρ) es)):Hv c T G Γ ops i s ρ K:=by
 obtain⟨o1,o2,o3,es,o4,o5,o6,o7,o8,o9⟩:=hk.own (hr.mem_iff.2 (by simp:SO.kq b cc g n q∈osA++[.kq b cc g n q]));have o5:es.length=(n.ev ρ).toNat:=o5;have hnf:nf (v.den ρ):=uL v ρ
 have go:∀{n':LE},(n'.ev ρ).toNat=(cy (k.den ρ) (v.den ρ) es).length->(K (c6 s (osA++[.kq b cc g n' (some (k,some vc))]))).Ok->Hv c T G Γ ops i s ρ K:=fun hn h =>
  fI.re hg hd ho hu hM hm hkk hv hks hnf o4 o7.1 ⟨rfl,rfl,Γ,ρ,_,h,dh.refl _ _,zad _,Jj hk hr o4 hks (hvc ρ) hn (hok es)⟩
 have new:(SY b cc g n osA k vc s K).Ok->Hv c T G Γ ops i s ρ K:=fun h=>by
  obtain⟨r1,r2,r3,r4⟩:=az h hk (.n (cy (k.den ρ) (v.den ρ) es).length);have hx:(LE.a (.n s.nx)).ev (ρ.up s.nx (.n (cy (k.den ρ) (v.den ρ) es).length))=(cy (k.den ρ) (v.den ρ) es).length:=by rw[LE.aV];show ((ρ.up s.nx _ s.nx).nn:Int)=_;rw[r4];rfl
  generalize hρ':ρ.up s.nx (.n (cy (k.den ρ) (v.den ρ) es).length)=ρ' at r2 r3 r4 hx;have hbb:(ρ' b).nn=(ρ b).nn:=by rw[r2 b hbl]
  have ek:k.den ρ'=k.den ρ:=SV.cg r2 hkl;have ev:v.den ρ'=v.den ρ:=SV.cg r2 hvl
  have hgg:ig ρ' g=ig ρ g:=by
   have hl:=dK h;unfold SS.ok at hl;simp only[za,zb]at hl;have:=hl.2.1 _ (hr.mem_iff.2 (by simp:SO.kq b cc g n q∈osA++[.kq b cc g n q]));simp only[SO.lt,za]at this;exact bR r2 this.2.1
  have hlen:=wP (k:=k.den ρ) (v:=v.den ρ) (es:=es);have hev:=LE.cg r2 hnl;have hP:=Jj (n':=.a (.n s.nx)) (v:=v) (k:=k) (vc:=vc) (es:=es) (n:=n) (q:=q) r3 hr (by rw[hbb];exact o4) (by rw[ek];exact hks) (hvc ρ') (by rw[hx,ek,ev];simp) (by rw[hgg,ek,ev];exact hok es);rw[hbb,ek,ev]at hP;refine fI.re hg hd ho hu hM hm hkk hv hks hnf o4 o7.1 ⟨rfl,rfl,Γ,_,_,r1,r2,zan _,(hP.aF ?_).aF ?_⟩
  ·rw[LE.au,hx,hev];omega
  ·rw[LE.au,LE.aE,hx,hev];omega
 cases q with
 |none=>exact new h
 |some p =>
  obtain⟨k',r⟩:=p
  have hf:k'.same k=true->cn (k.den ρ) es=r.map (cj ρ):=fun hs=>by
   rw[<-SV.bc hs ρ];exact (o9 (k'.den ρ) (r.map (cj ρ)) rfl).2
  cases r with
  |none =>
   have h:(bif k'.same k then K (c6 s (osA++[.kq b cc g (n.aO 1) (some (k,some vc))]))else SY b cc g n osA k vc s K).Ok:=h;cases hs:k'.same k with
   |false=>rw[hs]at h;exact new h
   |true =>
    rw[hs]at h;refine go (n':=n.aO 1) ?_ h;rw[ll (hf hs),zak,LE.aE];simp only[zbi,zeo];omega
  |some v0 =>
   have h:(bif k'.same k then K (c6 s (osA++[.kq b cc g n (some (k,some vc))]))else SY b cc g n osA k vc s K).Ok:=h;cases hs:k'.same k with
   |false=>rw[hs]at h;exact new h
   |true =>
    rw[hs]at h;refine go (n':=n) ?_ h;rw[nB (hf hs)];omega
theorem Ln {t:TypeId}{ym yk yv:Operand}{m k v:SV}{K:SS->R}(ho:(ae ops i).op=.mapUpdate t ym yk yv)(hg:(ae ops i).guard=none)(hd:(ae ops i).dst=none)(hP:cf.P=c.P)(hΦ:cf.Φ=c.Φ)(hK:dJ cf)(h:(Q3 cf t m k v s K).Ok)(hk:Ok c T G Γ ρ s)(hm:a9 c.nt T ym (m.den ρ))(hkk:a9 c.nt T yk (k.den ρ))(hv:a9 c.nt T yv (v.den ρ)):Hv c T G Γ ops i s ρ K:=by
 unfold Q3 at h;split at h
 ·rename_i b;split at h
  ·rename_i y cc g n q osA hr;obtain⟨r1,r2⟩:=eK hr;have e4:y=b:=aj r1;subst e4;unfold ZV at h;rw[hP,hΦ]at h;split at h
   ·rename_i kt et hu;cases hb:(gl cf kt (c.Φ.pk cc)&&(eC (c.Φ.pk cc) k&&(n.lt s.nx&&(aX s n&&(Nat.blt y s.nx&&(k.lt s.nx&&v.lt s.nx))))))with
    |false=>rw[hb]at h;cases h
    |true =>
     rw[hb]at h;simp only[cond_true]at h;simp only[za]at hb;obtain⟨b1,b2,b3,b4,b5,b6,b7⟩:=hb;have hMt:=gm b1 hK;rw[hP]at hMt;have hkf:=ew b2 ρ;have hn0:=av b4 hk.sat
     have put:∀{es:List (AV×AV)} {kd:K2} {x:SC},v=.v false [x]->(∃o,mB cf s g (ghost s.gs g) (.k 0) kd x=some o)->(∀p∈es,∃fs,Kv c.Φ (Γ.gd (ig ρ g)) (ig ρ g) 0 kd p.2 fs/\∀f∈fs,fF c.P c.Φ G Γ f)->∀p∈cy (k.den ρ) (v.den ρ) es,∃fs,Kv c.Φ (Γ.gd (ig ρ g)) (ig ρ g) 0 kd p.2 fs/\∀f∈fs,fF c.P c.Φ G Γ f:=by
      intro es kd x ex ⟨o,hc⟩ hM p hp;obtain⟨fs,k1,_,k3⟩:=tj (J:=0) hc hΦ hk (fun v hv=>bz hv hk) ⟨by rw[LE.bk];exact zby _,by rw[LE.bk];rfl⟩;rcases eU hp with h|h
      ·exact⟨fs,by rw[h,ex];exact k1,k3⟩
      ·exact hM p h
     split at h
     ·rename_i kd x hmv;split at h
      ·rename_i o hc;refine C7 (vc:=(false,[x])) ho hg hd hu hMt hk hm hkk hv hkf r2 b3 hn0 (ax b5) b6 b7 (fun _=>rfl) h fun es _ hM=>?_;obtain⟨m1,m2⟩:=hM;rw[hmv]at m2;refine⟨er hkf m1,?_⟩;rw[hmv];exact put rfl ⟨o,hc⟩ m2
      ·cases h
     ·rename_i bd kd x hmv;cases hn:Em s g bd k with
      |false=>rw[hn]at h;cases h
      |true =>
       rw[hn]at h;simp only[cond_true]at h;split at h
       ·rename_i o hc;refine C7 (vc:=(false,[x])) ho hg hd hu hMt hk hm hkk hv hkf r2 b3 hn0 (ax b5) b6 b7 (fun _=>rfl) h fun es _ hM=>?_;obtain⟨m1,m2⟩:=hM;rw[hmv]at m2;refine⟨er hkf m1,?_⟩;rw[hmv];refine⟨fun p hp=>?_,put rfl ⟨o,hc⟩ m2.2⟩;rcases rM p hp with e|⟨r,h1,e⟩
        ·rw[e];exact Ji hn hk
        ·rw[<-e];exact m2.1 r h1
       ·cases h
     ·rename_i hmv;refine C7 (vc:=(true,[])) ho hg hd hu hMt hk hm hkk hv hkf r2 b3 hn0 (ax b5) b6 b7 (fun _=>rfl) h fun es _ hM=>?_;obtain⟨m1,m2⟩:=hM;rw[hmv]at m2;refine⟨er hkf m1,?_⟩;rw[hmv];intro p hp;rcases eU hp with h|h
      ·rw[h];rfl
      ·exact m2 p h
     ·cases h
   ·cases h
  ·exact D5 ho hg hd hP hΦ hK h hk hm hkk hv
 ·exact D5 ho hg hd hP hΦ hK h hk hm hkk hv
theorem Jk {b K:Nat}{Kt:SS->R}(hΦ:cf.Φ=c.Φ)(h:(Jg cf b K s Kt).Ok)(hk:Ok c T G Γ ρ s):Ac c T G Γ s ρ Kt:=by
 unfold Jg at h;split at h
 ·rename_i y cc g n q osA hr;obtain⟨r1,r2⟩:=eK hr;rw[hΦ]at h;split at h
  ·rename_i bd kd d hmv hgd;cases hb:(aX s ((LE.k (.ofNat K)).sub (.a (.gn d bd)))&&aX s n)with
   |false=>rw[hb]at h;cases h
   |true =>
    rw[hb]at h;rw[za]at hb;have e1:=av hb.1 hk.sat;have e2:=av hb.2 hk.sat;rw[LE.au,LE.bk,LE.aV]at e1;have e1:0<=(K:Int)-(((ρ d).gg.n bd:Nat):Int):=e1;obtain⟨o1,o2,o3,es,o4,o5,o6,o7,o8,o9⟩:=hk.own (r2.mem_iff.2 (by simp:SO.kq y cc g n q∈osA++[.kq y cc g n q]));obtain⟨m1,m2⟩:=o7;rw[hmv]at m2;have m2:=m2.1;rw[bz hgd hk]at m2;have hc:=Lk (K:=K) (by omega) m1 m2 o8;have o5:es.length=(n.ev ρ).toNat:=o5;refine⟨G,Γ,ρ,_,sD.refl _,h,dh.refl _ _,zad _,hk.aF ?_⟩;rw[LE.au,LE.bk];show 0<=((Q1 K (c.Φ.pk cc):Nat):Int)-n.ev ρ;omega
  ·cases h
 ·cases h
theorem Gj {b:Nat}{k:SV}{Kt:SS->R}(hΦ:cf.Φ=c.Φ)(h:(C6 cf b k s Kt).Ok)(hk:Ok c T G Γ ρ s):Ac c T G Γ s ρ Kt:=by
 unfold C6 at h;split at h
 ·rename_i cc g n q hw;rw[hΦ]at h;cases hb:eC (c.Φ.pk cc) k with
  |false=>rw[hb]at h;cases h
  |true =>
   rw[hb]at h;obtain⟨o1,o2,o3,es,o4,o5,o6,o7,_⟩:=hk.own (dS hw);obtain⟨ρ',s',a1,n1,k1,_,h1⟩:=Jf (cf:=cf) (ok:=false) (zr:=(false,[.ab])) (K:=fun _ s=>Kt s) hΦ h hk o4 o7;exact⟨G,Γ,ρ',s',sD.refl _,h1,a1,n1,k1⟩
 ·cases h
theorem Lp {y:Nat}{Kt:SS->R}(hΦ:cf.Φ=c.Φ)(h:(Q4 cf y s Kt).Ok)(hk:Ok c T G Γ ρ s):Ac c T G Γ s ρ Kt:=by
 unfold Q4 at h;split at h
 ·rename_i cc g hf;rw[hΦ]at h;cases hb:(c.Φ.im cc&&(Nat.blt y s.nx&&bG s.nx g))with
  |false=>rw[hb]at h;cases h
  |true =>
   rw[hb]at h;simp only[cond_true]at h;simp only[za]at hb;obtain⟨mb,q1,q2⟩:=hk.ty (iP hf);have q1:(ρ y).vv=.cV mb:=q1;obtain⟨_,es,r1,r2,r3⟩:=hk.q.ht.b _ _ q2;obtain⟨h1,h2,h3,h4⟩:=az h hk (.n es.length);have hx:(LE.a (.n s.nx)).ev (ρ.up s.nx (.n es.length))=es.length:=by rw[LE.aV];show ((ρ.up s.nx _ s.nx).nn:Int)=_;rw[h4];rfl
   refine⟨G,Γ,_,_,sD.refl _,h1,h2,zan _,⟨⟨h3.sat.fs,h3.sat.bs,h3.sat.pw,h3.sat.ats,h3.sat.dB,h3.sat.ne,h3.sat.fz,h3.sat.sb⟩,?_⟩⟩;have hq:=h3.q
   have hown:df c.P c.Φ G Γ (SO.den (ρ.up s.nx (.n es.length)) (.rm y cc g (.a (.n s.nx)))):=by
    refine⟨hb.1,mb,es,by rw[h2 y (ax hb.2.1)];exact q1,by rw[bR h2 hb.2.2];exact q2,r1,by rw[hx];simp⟩
   refine⟨hq.ml,hq.at_,hq.xU,hq.rl,hq.grow,fun o ho=>?_,fun o ho b hbb=>?_,?_,hq.ht,hq.ty,hq.gs⟩
   ·rcases List.mem_cons.1 ho with rfl|ho
    ·exact hown
    ·exact hq.own o ho
   ·rcases List.mem_cons.1 ho with rfl|ho
    ·cases hbb
    ·exact hq.new o ho b hbb
   ·exact hq.nd
 ·cases h
theorem Jl {b:Nat}{Kt:SS->R}(h:(Jh b s Kt).Ok)(hk:Ok c T G Γ ρ s):Ac c T G Γ s ρ Kt:=by
 unfold Jh at h;split at h
 ·rename_i y cc g n q osA hr;obtain⟨r1,r2⟩:=eK hr;have e4:y=b:=aj r1;subst e4;exact⟨G,Γ,ρ,_,sD.refl _,h,dh.refl _ _,zad _,Ok.ZU (o:=.kq y cc g n q) (o':=.km y cc g n) hk r2 rfl fun⟨o1,o2,o3,es,o4,o5,o6,o7,_⟩=>⟨o1,o2,o3,es,o4,o5,o6,o7⟩⟩
 ·cases h
end
end Go.Rd
namespace Go.aK
open Go.RowKit
section
variable {P:Program}{n0 nt:Nat}{T:Tm}{hp:Tr AO}{nx:Pz}{G:GH}{ops:Array Oper}{i d:Nat}
theorem ba.Q5 {c:Call}{t kt et:TypeId}{ats:List TypeId}{x:Operand}{b:Nat}{es:List (AV×AV)}(hg:(ae ops i).guard=none)(ho:(ae ops i).op=.call c)(hc:c.callee=.builtin .len)(hats:c.argTypes.toList=t::ats)(hxa:c.args.toList=[x])(hu:P.underlying t=some (.map kt et))(hx:a9 nt T x (.cV b))(hb:G b=some (.map es)):ba P ops n0 nt i T hp nx G (.int .i64 (.ofNat es.length)):=by
 have ht:c.argTypes[0]?=some t:=by rw[<-zcj,hats];rfl
 refine bQ hg fun B w0 ι a w hs=>?_
 have hargs:c.args.map a.eval=#[ak ι (.cV b)]:=by
  rw[map_mk,hxa];simp only[zal,zdo];rw[Rt.a9.at hx hs]
 obtain⟨_,E,clock,h1,_,h3,_⟩:=hs.2.1 b _ hb
 have hsz:E.size=es.length:=by
  have:=congrArg List.length (h3 ι);simpa using this
 simp only[execOp,ho,resolve,hc,hargs];simp only[Sem.run_bind,Sem.run_pure,Result.andThen_ok,invoke,builtin];simp only[ak,Builtin.len_,ht];simp only[zao,zba,Sem.run_bind,ay hu,Result.andThen_ok,bO h1];simp[goInt,hsz]
theorem ba.Jm (hg:(ae ops i).guard=none){t e:TypeId}{z:AV}{n:Nat}{ie:TypeInfo}{ps:Array (Nat×Operand)}{vs:List (Nat×AV)}{cs:List AV}(ho:(ae ops i).op=.build t ps)(hz:zeroOf P t=some z)(hu:P.underlying t=some (.array n e))
  (hie:P.info? e=some ie) (hv:Rt.HY nt T ps.toList vs) (h:Rt.sx (fun i=>some (i*ie.size,ie.size)) vs z.cells=some cs):ba P ops n0 nt i T hp nx G (.agg cs):=by
 obtain⟨j,zv,h1,h2,h3,h4⟩:=cG hz;refine bQ hg fun B w0 ι a w hs=>?_;have ha:=(hs.1.2 ι (ao.refl _ _)).1;have hz':zv.cells=(aq ι z.cells).toArray:=by rw[<-ei 8 zv z h3 ι,bY]
 have hb:P.built t (ps.map fun x=>(x.1,a.eval x.2)).toList=some (aq ι cs).toArray:=by
  unfold Program.built;simp only[h1,hu,h2,hie];rw[e9,hz',Rt.HY.map ha hv,<-Rt.qA ι h]
 simp only[execOp,ho,Sem.run_bind];rw[show (ps.map fun x=>match x with|(i,x)=>(i,a.eval x))=ps.map fun x=>(x.1,a.eval x.2)from rfl,run_build w t _ _ hb];simp[ak]
theorem ba.Q6 {t el:TypeId}{yx:Operand}{x b len cap l:Nat}{kd:IntKind}(hg:(ae ops i).guard=none)(ho:(ae ops i).op=.slice t yx (some (.tmp x)) none none)(hu:P.underlying t=some (.slice el))(hi:(P.info? el).isSome=true)(hx:a9 nt T yx (.dx b 0 len cap))(hh:T.at x=.int kd (.ofNat l))(hl:l<=len)(hle:len<=cap) :
  ba P ops n0 nt i T hp nx G (.dx b (bif Nat.beq cap l then 0 else 0+l*af P el) (len-l) (cap-l)):=by
 refine bQ hg fun B w0 ι a w hs=>?_;have ha:=(hs.1.2 ι (ao.refl _ _)).1;obtain⟨k,hk⟩:=Option.isSome_iff_exists.1 hi;have hb:=iC (P:=P) (w:=w) (lo:=some (.tmp x)) (hi:=none) (b:=true) (len:=len) (cap:=cap) ha (.inl ⟨rfl,rfl⟩) (Cj hh) hl hle;simp only[zbu,zaz]at hb;simp only[execOp,ho];rw[hx ι a ha];simp only[ak,fD,zbu,zaz,Sem.run_bind];rcases lS hu (b:=b) (q:=0) hb with e|e
 ·rw[e];by_cases hc:cap=l
  ·have:Nat.beq cap l=true:=by rw[hc];exact zcm l
   rw[if_pos hc,this];simp[ak,fD]
  ·have:Nat.beq cap l=false:=by
     cases hb:Nat.beq cap l with
     |true=>exact absurd (zab hb) hc
     |false=>rfl
   rw[if_neg hc,this];simp only[cond_false,Result.andThen_ok,Sem.run_pure,ak];simp[oU];intro _ h0;omega
 ·rw[e]at hk;cases hk
theorem ba.mmE {mx:Bool}{c:Call}{x y:Operand}{k k':IntKind}{a b:Int}(hg:(ae ops i).guard=none)(ho:(ae ops i).op=.call c)(hc:c.callee=.builtin (if mx then .max else .min))(hxa:c.args.toList=[x,y])(hx:a9 nt T x (.int k a))(hy:a9 nt T y (.int k' b)) :
  ba P ops n0 nt i T hp nx G (.int k (if mx then (if b > a then b else a)else (if b<a then b else a))):=by
 refine bQ hg fun B w0 ι a' w hs=>?_
 have hargs:c.args.map a'.eval=#[ak ι (.int k a),ak ι (.int k' b)]:=by
  rw[map_mk,hxa];simp only[zal,zdo];rw[Rt.a9.at hx hs,Rt.a9.at hy hs]
 cases mx with
 |false =>
  have hc:c.callee=.builtin .min:=hc;simp only[execOp,ho,resolve,hc,hargs];simp only[Sem.run_bind,Sem.run_pure,Result.andThen_ok,invoke,builtin];simp only[Builtin.min_,zej,zen,ak,Builtin.min2,Sem.run_bind,Sem.run_pure,Result.andThen_ok,zaf,if_false]
 |true =>
  have hc:c.callee=.builtin .max:=hc;simp only[execOp,ho,resolve,hc,hargs];simp only[Sem.run_bind,Sem.run_pure,Result.andThen_ok,invoke,builtin];simp only[Builtin.max_,zej,zen,ak,Builtin.max2,Sem.run_bind,Sem.run_pure,Result.andThen_ok,if_true]
end
end Go.aK
namespace Go.Rd
open Go.aK Go.RowKit Go.Rt
def uX (s:SS):List Operand->Option (List SC)
 | []=>some []
 |x::xs=>(match JR s x,uX s xs with|some (.v false [y]),some l=>some (y::l)|_,_=>none)
def Wh (mx:Bool)(x y:SV)(s:SS)(K:SV->SS->R):R:=match x,y with
 |.v false [.int k a],.v false [.int _ b]=>(match mx with
  |false=>bif aX s (b.sub a)then K (sc (.int k a)) s else bif aX s ((a.sub b).aO (-1))then K (sc (.int k b)) s else (K (sc (.int k a)) (aF s (b.sub a))).and (K (sc (.int k b)) (aF s ((a.sub b).aO (-1))))
  |true=>bif aX s ((b.sub a).aO (-1))then K (sc (.int k b)) s else bif aX s (a.sub b)then K (sc (.int k a)) s else (K (sc (.int k b)) (aF s ((b.sub a).aO (-1)))).and (K (sc (.int k a)) (aF s (a.sub b))))
 |_,_=>.bad 280 s
def Q7 (cf:Cf)(t:TypeId)(x:SV)(s:SS)(K:SV->SS->R):R:=match x with
 |.v false [.cV b]=>(match cf.P.underlying t,tn s.os b with
  |some (.map _ _),some (.km _ _ n)=>bif aX s n then K (sc (.int .i64 n)) s else .bad 281 s
  |some (.map _ _),some (.kq _ _ n _)=>bif aX s n then K (sc (.int .i64 n)) s else .bad 281 s
  |_,_=>TL cf t x s K)
 |_=>TL cf t x s K
def Q8 (cf:Cf)(t:TypeId)(x y:SV)(s:SS)(K:SV->SS->R):R:=match cf.P.underlying t,x,y with
 |some (.slice el),.v false [.ref q],.v false [.int _ e]=>(match oJ s.ty q with
  |some (cc,_)=>bif cf.Φ.fV cc&&(Nat.beq el (cf.Φ.ty cc)&&((cf.P.info? el).isSome&&(aX s e&&(aX s ((LE.a (.len q)).sub e)&&aX s ((LE.a (.len q)).aO (-1))))))then K (.slt q e (af cf.P el)) s else .bad 284 s
  |none=>.bad 285 s)
 |_,_,_=>.bad 286 s
def Xt (cf:Cf)(o:Op)(t:TypeId)(ps:List (Nat×Operand))(s:SS)(K:SV->SS->R):R:=match cf.P.underlying t with
 |some (.array _ e)=>(match cf.P.info? e,(zeroOf cf.P t).bind tg,rA s ps with
  |some ie,some (.v true cs),some l=>(match sy (fun i=>some (i*ie.size,ie.size)) (AR l) cs with|some cs'=>K (.v true cs') s|none=>.bad 287 s)
  |_,_,_=>.bad 288 s)
 |_=>A3 cf o s K
def Bb (cf:Cf)(o:Op)(s:SS)(K:SV->SS->R):R:=match o with
 |.lookup t x y ok=>wv s x fun v=>wv s y fun u=>Q2 cf t v u ok s K
 |.makeFunc (.func f) fs gs=>(match uX s fs.toList,uX s gs.toList with|some bs,some cs=>K (.wB f bs cs) s|_,_=>.bad 282 s)
 |.build t ps=>Xt cf (.build t ps) t ps.toList s K
 |.slice t x (some (.tmp y)) none none=>wv s x fun v=>wv s (.tmp y) fun u=>Q8 cf t v u s K
 |.call cl=>(match cl.callee,cl.args.toList,cl.argTypes.toList with
  |.builtin .len,[x],t::_=>wv s x fun v=>Q7 cf t v s K
  |.builtin .min,[x,y],_=>wv s x fun v=>wv s y fun u=>Wh false v u s K
  |.builtin .max,[x,y],_=>wv s x fun v=>wv s y fun u=>Wh true v u s K
  |_,_,_=>.bad 283 s)
 |o=>A3 cf o s K
section
variable {c:Cx}{T:Tm}{G:GH}{Γ:dI}{ρ ρ':bm}{s s':SS}{cf:Cf}{ops:Array Oper}{i d:Nat}
theorem rN (hq:Q c T G Γ (s.den ρ)):∀{xs:List Operand}{l:List SC},uX s xs=some l->HJ c.nt T xs (aD ρ l)
 | [],l,h=>by cases h;trivial
 |x::xs,l,h=>by
  unfold uX at h;split at h
  ·rename_i y l' h1 h2;cases h;exact⟨rp h1 hq,rN hq h2⟩
  ·cases h
theorem Jn {mx:Bool}{cl:Call}{ox oy:Operand}{x y:SV}{K:SV->SS->R}(ho:(ae ops i).op=.call cl)(hc:cl.callee=.builtin (if mx then .max else .min))(hxa:cl.args.toList=[ox,oy])(hg:(ae ops i).guard=none)(h:(Wh mx x y s K).Ok)(hk:Ok c T G Γ ρ s)(hx:a9 c.nt T ox (x.den ρ))(hy:a9 c.nt T oy (y.den ρ)):Lo c T G Γ ops i s ρ K:=by
 unfold Wh at h;split at h
 ·rename_i k a k' b;have hl:=ba.mmE (P:=c.P) (n0:=c.n0) (hp:=.e) (nx:=z 0) (G:=G) (mx:=mx) hg ho hc hxa (k:=k) (k':=k') (a:=a.ev ρ) (b:=b.ev ρ) hx hy
  have A:a.ev ρ=(if mx then (if b.ev ρ > a.ev ρ then b.ev ρ else a.ev ρ)else (if b.ev ρ<a.ev ρ then b.ev ρ else a.ev ρ))->(K (sc (.int k a)) s).Ok->Lo c T G Γ ops i s ρ K:=fun e h=>by
   rw[<-e]at hl;exact Lo.here hk h hl
  have A2:∀{f:LE},0<=f.ev ρ->a.ev ρ=(if mx then (if b.ev ρ > a.ev ρ then b.ev ρ else a.ev ρ)else (if b.ev ρ<a.ev ρ then b.ev ρ else a.ev ρ))->(K (sc (.int k a)) (aF s f)).Ok->Lo c T G Γ ops i s ρ K:=fun hf e h=>by
   rw[<-e]at hl;exact Lo.to (s':=aF s _) rfl (Lo.here (hk.aF hf) h hl)
  have B:b.ev ρ=(if mx then (if b.ev ρ > a.ev ρ then b.ev ρ else a.ev ρ)else (if b.ev ρ<a.ev ρ then b.ev ρ else a.ev ρ))->(K (sc (.int k b)) s).Ok->Lo c T G Γ ops i s ρ K:=fun e h=>by
   rw[<-e]at hl;exact Lo.here hk h hl
  have B2:∀{f:LE},0<=f.ev ρ->b.ev ρ=(if mx then (if b.ev ρ > a.ev ρ then b.ev ρ else a.ev ρ)else (if b.ev ρ<a.ev ρ then b.ev ρ else a.ev ρ))->(K (sc (.int k b)) (aF s f)).Ok->Lo c T G Γ ops i s ρ K:=fun hf e h=>by
   rw[<-e]at hl;exact Lo.to (s':=aF s _) rfl (Lo.here (hk.aF hf) h hl)
  cases mx with
  |false =>
   have h:(bif aX s (b.sub a)then K (sc (.int k a)) s else bif aX s ((a.sub b).aO (-1))then K (sc (.int k b)) s else (K (sc (.int k a)) (aF s (b.sub a))).and (K (sc (.int k b)) (aF s ((a.sub b).aO (-1))))).Ok:=h;simp only[zaf,if_false]at A B A2 B2;cases h1:aX s (b.sub a)with
   |true =>
    rw[h1]at h;have e:=av h1 hk.sat;rw[LE.au]at e;exact A (by rw[if_neg (by omega)]) h
   |false =>
    rw[h1]at h;cases h2:aX s ((a.sub b).aO (-1))with
    |true =>
     rw[h2]at h;have e:=av h2 hk.sat;rw[LE.aE,LE.au]at e;exact B (by rw[if_pos (by omega)]) h
    |false =>
     rw[h2]at h;obtain⟨k1,k2⟩:=R.eW h;by_cases hlt:b.ev ρ<a.ev ρ
     ·exact B2 (by rw[LE.aE,LE.au];omega) (by rw[if_pos hlt]) k2
     ·exact A2 (by rw[LE.au];omega) (by rw[if_neg hlt]) k1
  |true =>
   have h:(bif aX s ((b.sub a).aO (-1))then K (sc (.int k b)) s else bif aX s (a.sub b)then K (sc (.int k a)) s else (K (sc (.int k b)) (aF s ((b.sub a).aO (-1)))).and (K (sc (.int k a)) (aF s (a.sub b)))).Ok:=h;simp only[if_true]at A B A2 B2;cases h1:aX s ((b.sub a).aO (-1))with
   |true =>
    rw[h1]at h;have e:=av h1 hk.sat;rw[LE.aE,LE.au]at e;exact B (by rw[if_pos (by omega)]) h
   |false =>
    rw[h1]at h;cases h2:aX s (a.sub b)with
    |true =>
     rw[h2]at h;have e:=av h2 hk.sat;rw[LE.au]at e;exact A (by rw[if_neg (by omega)]) h
    |false =>
     rw[h2]at h;obtain⟨k1,k2⟩:=R.eW h;by_cases hlt:b.ev ρ > a.ev ρ
     ·exact B2 (by rw[LE.aE,LE.au];omega) (by rw[if_pos hlt]) k1
     ·exact A2 (by rw[LE.au];omega) (by rw[if_neg hlt]) k2
 ·cases h
theorem Lq {cl:Call}{t:TypeId}{ats:List TypeId}{x:Operand}{v:SV}{K:SV->SS->R}(ho:(ae ops i).op=.call cl)(hc:cl.callee=.builtin .len)(hats:cl.argTypes.toList=t::ats)(hxa:cl.args.toList=[x])(hg:(ae ops i).guard=none)(hP:cf.P=c.P)(h:(Q7 cf t v s K).Ok)(hk:Ok c T G Γ ρ s)(hx:a9 c.nt T x (v.den ρ)):Lo c T G Γ ops i s ρ K:=by
 unfold Q7 at h;split at h
 ·rename_i b
  have key:∀{n:LE} {kt et:TypeId} {es:List (AV×AV)},cf.P.underlying t=some (.map kt et)->G (ρ b).nn=some (.map es)->es.length=(n.ev ρ).toNat->(bif aX s n then K (sc (.int .i64 n)) s else .bad 281 s).Ok->Lo c T G Γ ops i s ρ K:=by
   intro n kt et es hu hG hl h;cases he:aX s n with
   |false=>rw[he]at h;cases h
   |true =>
    rw[he]at h;have e:=av he hk.sat;rw[hP]at hu;have:=ba.Q5 (n0:=c.n0) (hp:=.e) (nx:=z 0) hg ho hc hats hxa hu hx hG;rw[hl,show (Int.ofNat (n.ev ρ).toNat)=n.ev ρ from zbm e]at this;exact Lo.here hk h this
  split at h
  ·rename_i kt et cc g n hu hw;obtain⟨_,_,_,es,o4,o5,_⟩:=hk.own (dS hw);exact key hu o4 o5 h
  ·rename_i kt et cc g n q hu hw;obtain⟨_,_,_,es,o4,o5,_⟩:=hk.own (dS hw);exact key hu o4 o5 h
  ·exact CP ho hc hats hxa hg hP h hk hx
 ·exact CP ho hc hats hxa hg hP h hk hx
theorem Lr {t:TypeId}{x:Operand}{y:Nat}{v u:SV}{K:SV->SS->R}(ho:(ae ops i).op=.slice t x (some (.tmp y)) none none)(hg:(ae ops i).guard=none)(hP:cf.P=c.P)(hΦ:cf.Φ=c.Φ)(h:(Q8 cf t v u s K).Ok)(hk:Ok c T G Γ ρ s)(hx:a9 c.nt T x (v.den ρ))(hy:T.at y=u.den ρ):Lo c T G Γ ops i s ρ K:=by
 unfold Q8 at h;rw[hP,hΦ]at h;split at h
 ·rename_i el q kd e hu;split at h
  ·rename_i cc g hf;cases hb:(c.Φ.fV cc&&(Nat.beq el (c.Φ.ty cc)&&((c.P.info? el).isSome&&(aX s e&&(aX s ((LE.a (.len q)).sub e)&&aX s ((LE.a (.len q)).aO (-1)))))))with
   |false=>rw[hb]at h;cases h
   |true =>
    rw[hb]at h;simp only[za]at hb;obtain⟨b1,b2,b3,b4,b5,b6⟩:=hb;have e1:=av b4 hk.sat;have e2:=av b5 hk.sat;have e3:=av b6 hk.sat;rw[LE.au,LE.aV]at e2;rw[LE.aE,LE.aV]at e3;have e2:0<=((ρ q).ns.length:Int)-e.ev ρ:=e2;have e3:0<=((ρ q).ns.length:Int)+-1:=e3;have ht:fF c.P c.Φ G Γ (.sl (ρ q).vv cc (ig ρ g) (ρ q).ns):=hk.ty (gI hf);obtain⟨_,htd⟩:=yf ht b1;rcases htd with ⟨_,h0⟩|⟨b,cap,L,size,C,h1,h2,h3,h4,h5,h6⟩
    ·rw[h0]at e3;simp at e3
    ·have hx:a9 c.nt T x (.dx b 0 (ρ q).ns.length cap):=by rw[<-h1];exact hx
     have hy:T.at y=.int kd (.ofNat (e.ev ρ).toNat):=hy.trans (by show AV.int kd (e.ev ρ)=_;congr 1;exact (zbm e1).symm);refine Lo.here hk h ?_;show ba _ _ _ _ _ _ _ _ _ (HR (ρ q).vv (e.ev ρ).toNat (af c.P el));rw[h1];exact ba.Q6 hg ho hu b3 hx hy (by omega) h6
  ·cases h
 ·cases h
theorem Q9 {t:TypeId}{ps:Array (Nat×Operand)}{K:SV->SS->R}(ho:(ae ops i).op=.build t ps)(hg:(ae ops i).guard=none)(hP:cf.P=c.P)(hΦ:cf.Φ=c.Φ)(hK:dJ cf)(h:(Xt cf (ae ops i).op t ps.toList s K).Ok)(hk:Ok c T G Γ ρ s):Lo c T G Γ ops i s ρ K:=by
 unfold Xt at h;split at h
 ·rename_i n e hu;rw[hP]at h hu;split at h
  ·rename_i ie cs l hie hz hl;cases hf:sy (fun i=>some (i*ie.size,ie.size)) (AR l) cs with
   |none=>rw[hf]at h;cases h
   |some cs' =>
    rw[hf]at h;cases hzz:zeroOf c.P t with
    |none=>rw[hzz]at hz;cases hz
    |some zz =>
     rw[hzz]at hz;have hz:tg zz=some (.v true cs):=hz;have e1:=kD hz ρ;obtain⟨p1,p2⟩:=n6 hk.q hl;refine Lo.here hk h (ba.Jm hg ho hzz hu hie p1 ?_);have e2:zz.cells=aD ρ cs:=by rw[<-e1];rfl
     rw[e2];exact qD hf p2
  ·cases h
 ·exact oc hg hP hΦ hK h hk
theorem tz {K:SV->SS->R}(hg:(ae ops i).guard=none)(hP:cf.P=c.P)(hΦ:cf.Φ=c.Φ)(hK:dJ cf)(h:(Bb cf (ae ops i).op s K).Ok)(hk:Ok c T G Γ ρ s):Lo c T G Γ ops i s ρ K:=by
 unfold Bb at h;split at h
 ·rename_i ho;obtain⟨v,h,_,e⟩:=br h hk;obtain⟨u,h,_,e'⟩:=br h hk;exact Lm ho hg hP hΦ hK h hk e e'
 ·rename_i f fs gs ho;split at h
  ·rename_i bs cs h1 h2;exact Lo.here hk h (ba.WA hg ho (rN hk.q h1) (rN hk.q h2))
  ·cases h
 ·rename_i t ps ho;exact Q9 ho hg hP hΦ hK (by rw[ho];exact h) hk
 ·rename_i t x y ho;obtain⟨v,h,_,e⟩:=br h hk;obtain⟨u,h,e0,_⟩:=br h hk;exact Lr ho hg hP hΦ h hk e (gh e0 hk.q)
 ·rename_i cl ho;split at h
  ·rename_i x t ats h1 h2 h3;obtain⟨v,h,_,e⟩:=br h hk;exact Lq ho h1 h3 h2 hg hP h hk e
  ·rename_i x y h1 h2;obtain⟨v,h,_,e⟩:=br h hk;obtain⟨u,h,_,e'⟩:=br h hk;exact Jn (mx:=false) ho h1 h2 hg h hk e e'
  ·rename_i x y h1 h2;obtain⟨v,h,_,e⟩:=br h hk;obtain⟨u,h,_,e'⟩:=br h hk;exact Jn (mx:=true) ho h1 h2 hg h hk e e'
  ·cases h
 ·exact oc hg hP hΦ hK h hk
def Jo (cf:Cf)(ops:Array Oper)(i:Nat)(s:SS)(K:SV->SS->R):R:=match (ae ops i).guard with
 |none=>Bb cf (ae ops i).op s K
 |some (g,b)=>(match (ae ops g).dst with
  |some dg=>(match yL s.L dg with
   |some (.v false [.bool be])=>split s be (fun s=>bif b then Bb cf (ae ops i).op s K else K .undef s) (fun s=>bif b then K .undef s else Bb cf (ae ops i).op s K)
   |some .undef=>K .undef s
   |_=>.bad 13 s)
  |none=>.bad 14 s)
theorem Eo {K:SV->SS->R}(hP:cf.P=c.P)(hΦ:cf.Φ=c.Φ)(hK:dJ cf)(h:(Jo cf ops i s K).Ok)(hk:Ok c T G Γ ρ s):Lo c T G Γ ops i s ρ K:=by
 unfold Jo at h;split at h
 ·rename_i hg;exact tz hg hP hΦ hK h hk
 ·rename_i g b hg;split at h
  ·rename_i dg hdg;split at h
   ·rename_i be hl;have hT:T.at dg=.bool (be.ev ρ):=hk.q.at_ _ _ (gH hl)
    have run:∀s1,s1.nx=s.nx->Ok c T G Γ ρ s1->be.ev ρ=b->(Bb cf (ae ops i).op s1 K).Ok->Lo c T G Γ ops i s ρ K:=fun s1 n1 o1 e1 h1=>by
     rw[e1]at hT;refine Lo.to n1 (Lo.map (ops':=xY ops) (tz (wJ ops i) hP hΦ hK (by rw[Ik];exact h1) o1) fun v hv=>Cr hg hdg hT hv)
    have idle:∀s1,s1.nx=s.nx->Ok c T G Γ ρ s1->be.ev ρ≠b->(K .undef s1).Ok->Lo c T G Γ ops i s ρ K:=fun s1 n1 o1 e1 h1 =>
     Lo.to n1 (Lo.here o1 h1 (uG hg hdg hT e1))
    obtain⟨s1,n1,_,o1,h1|h1⟩:=nF h hk
    ·obtain⟨e1,h1⟩:=h1;cases b with
     |true=>exact run s1 n1 o1 e1 h1
     |false=>exact idle s1 n1 o1 (by rw[e1];decide) h1
    ·obtain⟨e1,h1⟩:=h1;cases b with
     |true=>exact idle s1 n1 o1 (by rw[e1];decide) h1
     |false=>exact run s1 n1 o1 e1 h1
   ·rename_i hl;exact Lo.here hk h (uH hg hdg (hk.q.at_ _ _ (gH hl)))
   ·cases h
  ·cases h
end
end Go.Rd
namespace Go.Rd
open Go.aK Go.RowKit Go.Rt
def Gk (cf:Cf)(rk:Rk)(an:An)(o:Op)(d:Option Nat)(s:SS)(K:SS->R):R:=match o,d with
 |.alloc t,some d=>W1 cf t d s K
 |.box t x,some d=>wv s x fun v=>yn cf t v d s K
 |.buildSlice t len ps,some d=>W9 cf t len ps.toList d an s K
 |.makeMap _ none,some d=>zJ cf d an s K
 |.makeSlice t yl yc,some d=>wv s yl fun v=>wv s yc fun u=>MX cf t d v u an s K
 |.store t (.tmp x) y,none=>wv s (.tmp x) fun v=>wv s y fun u=>QI cf t v u s K
 |.mapUpdate t m k v,none=>wv s m fun a=>wv s k fun b=>wv s v fun e=>Q3 cf t a b e s K
 |.range t x,some d=>wv s x fun v=>Xf cf t v d s K
 |.next x false,some d=>wv s x fun v=>Kl cf v d s K
 |.entry x,some d=>wv s x fun v=>QL cf v s fun v s=>K (eG s d v)
 |.binOp op t x y yt,some d=>wv s x fun v=>wv s y fun u=>Xj cf (.binOp op t x y yt) op t v u s fun v s=>K (eG s d v)
 |.convert t t' x,some d=>wv s x fun v=>MR cf (.convert t t' x) t t' v s fun v s=>K (eG s d v)
 |.index t x y,some d=>wv s x fun v=>wv s y fun u=>Xk cf (.index t x y) t v u s fun v s=>K (eG s d v)
 |.call cl,d=>(match cl.callee with
  |.builtin .append=>(match cl.args.toList,cl.argTypes.toList,d with
   | [ys,yx],[ts,tx],some d=>wv s ys fun v=>wv s yx fun u=>QG cf ts tx d v u an s K
   |_,_,_=>.bad 400 s)
  |.value f=>wv s f fun fv=>(match T7 s cl.args.toList with|some vs=>kL cf rk fv vs d s K|none=>.bad 401 s)
  |_=>(match d with|some d=>Bb cf (.call cl) s fun v s=>K (eG s d v)|none=>.bad 402 s))
 |o,some d=>Bb cf o s fun v s=>K (eG s d v)
 |_,none=>.bad 403 s
def ZW (nt:Nat):Option Nat->Bool|some d=>Nat.blt d nt|none=>true
def cR (cf:Cf)(rk:Rk)(an:An)(ops:Array Oper)(i:Nat)(s:SS)(K:SS->R):R:=bif ZW cf.nt (ae ops i).dst then (match (ae ops i).guard with
 |none=>Gk cf rk an (ae ops i).op (ae ops i).dst s K
 |some (g,b)=>(match (ae ops g).dst,(ae ops i).dst with
  |some dg,some d=>(match yL s.L dg with
   |some (.v false [.bool be])=>split s be (fun s=>bif b then Gk cf rk an (ae ops i).op (some d) s K else K (eG s d .undef)) (fun s=>bif b then K (eG s d .undef)else Gk cf rk an (ae ops i).op (some d) s K)
   |some .undef=>K (eG s d .undef)
   |_=>.bad 404 s)
  |_,_=>.bad 405 s))
 else .bad 406 s
section
variable {c:Cx}{T:Tm}{G G':GH}{Γ Γ':dI}{ρ ρ':bm}{s0 s s':SS}{ops:Array Oper}{i d:Nat}{cf:Cf}{rk:Rk}
theorem Ep {an:An}{K:SS->R}(hP:cf.P=c.P)(hΦ:cf.Φ=c.Φ)(hK:dJ cf)(hR:vy c rk ρ)(hg:(ae ops i).guard=none)(hlt:∀d,(ae ops i).dst=some d->d<c.nt)(h:(Gk cf rk an (ae ops i).op (ae ops i).dst s K).Ok)(hk:Ok c T G Γ ρ s):Hv c T G Γ ops i s ρ K:=by
 unfold Gk at h;split at h
 ·rename_i ho hd;exact Qt ho hg hd (hlt _ hd) hP h hk
 ·rename_i ho hd;obtain⟨v,h,_,e⟩:=br h hk;exact Qu ho hg hd (hlt _ hd) h hk e
 ·rename_i ho hd;exact QD ho hg hd (hlt _ hd) hP hΦ h hk
 ·rename_i ho hd;exact QE ho hg hd (hlt _ hd) hP hΦ h hk
 ·rename_i ho hd;obtain⟨v,h,_,e⟩:=br h hk;obtain⟨u,h,_,e'⟩:=br h hk;exact QH ho hg hd (hlt _ hd) hP hΦ h hk e e'
 ·rename_i ho hd;obtain⟨v,h,e0,e⟩:=br h hk;obtain⟨u,h,_,e'⟩:=br h hk;exact K4 ho hg hd hP hΦ h hk (gh e0 hk.q) e'
 ·rename_i ho hd;obtain⟨a,h,_,e1⟩:=br h hk;obtain⟨b,h,_,e2⟩:=br h hk;obtain⟨e,h,_,e3⟩:=br h hk;exact Ln ho hg hd hP hΦ hK h hk e1 e2 e3
 ·rename_i ho hd;obtain⟨v,h,_,e⟩:=br h hk;exact QM ho hg hd (hlt _ hd) hP hΦ h hk e
 ·rename_i ho hd;obtain⟨v,h,_,e⟩:=br h hk;exact QN ho hg hd (hlt _ hd) hΦ h hk e
 ·rename_i ho hd;obtain⟨v,h,_,e⟩:=br h hk;exact Lo.hv hd (hlt _ hd) (QO ho hg hΦ h hk e)
 ·rename_i ho hd;obtain⟨v,h,_,e⟩:=br h hk;obtain⟨u,h,_,e'⟩:=br h hk;rw[<-ho]at h;exact Lo.hv hd (hlt _ hd) (QR ho hg hP hΦ hK h hk e e')
 ·rename_i ho hd;obtain⟨v,h,_,e⟩:=br h hk;rw[<-ho]at h;exact Lo.hv hd (hlt _ hd) (QS ho hg hP hΦ hK h hk e)
 ·rename_i ho hd;obtain⟨v,h,_,e⟩:=br h hk;obtain⟨u,h,_,e'⟩:=br h hk;rw[<-ho]at h;exact Lo.hv hd (hlt _ hd) (QT ho hg hP hΦ hK h hk e e')
 ·rename_i cl ho;split at h
  ·rename_i hcal;split at h
   ·rename_i h1 h2 hd;obtain⟨v,h,_,e⟩:=br h hk;obtain⟨u,h,_,e'⟩:=br h hk;exact K3 hg hd (hlt _ hd) ho hcal h2 h1 hP hΦ h hk e e'
   ·cases h
  ·rename_i f hcal;obtain⟨fv,h,_,e⟩:=br h hk;split at h
   ·rename_i vs hvs;exact Q0 hΦ hR hg rfl hlt (by unfold wx;rw[ho];simp only;rw[hcal]) e hvs h hk
   ·cases h
  ·split at h
   ·rename_i d hd;rw[<-ho]at h;exact Lo.hv hd (hlt _ hd) (tz hg hP hΦ hK h hk)
   ·cases h
 ·rename_i d hd _ _ _ _ _ _
  first
   |exact Lo.hv ‹_› (hlt _ ‹_›) (tz hg hP hΦ hK h hk)
   |skip
 ·cases h
theorem vy.cg {n:Nat}(h:vy c rk ρ)(hm:rk.ms.lt n=true)(ha:dh n ρ ρ'):vy c rk ρ':=fun sp hsp m hc=>h sp hsp m (by rw[LE.cg ha hm]at hc;exact hc)
theorem LE.Ra {e:LE}{n m:Nat}(h:e.lt n=true)(hn:n<=m):e.lt m=true:=List.all_eq_true.2 fun p hp=>by
 have:=ax (List.all_eq_true.1 h p hp);exact Ee (by omega)
theorem Hv.to {K:SS->R}(hn:s'.nx=s.nx)(h:Hv c T G Γ ops i s' ρ K):Hv c T G Γ ops i s ρ K:=fI.mono h fun T' hp' nx' G' ⟨h1,h2,Γ',ρ',s2,h3,h4,h5,h6⟩=>⟨h1,h2,Γ',ρ',s2,h3,by rw[<-hn];exact h4,by omega,h6⟩
theorem Jp {an:An}{K:SS->R}(hP:cf.P=c.P)(hΦ:cf.Φ=c.Φ)(hnt:cf.nt=c.nt)(hK:dJ cf)(hR:vy c rk ρ)(h:(cR cf rk an ops i s K).Ok)(hk:Ok c T G Γ ρ s):Hv c T G Γ ops i s ρ K:=by
 unfold cR at h;cases hdi:ZW cf.nt (ae ops i).dst with
 |false=>rw[hdi]at h;cases h
 |true =>
  rw[hdi]at h;simp only[cond_true]at h
  have hlt:∀d,(ae ops i).dst=some d->d<c.nt:=fun d hd=>by
   rw[hd,hnt]at hdi;exact ax hdi
  split at h
  ·rename_i hg;exact Ep hP hΦ hK hR hg hlt h hk
  ·rename_i g b hg;split at h
   ·rename_i dg d hdg hd;split at h
    ·rename_i be hl;have hT:T.at dg=.bool (be.ev ρ):=hk.q.at_ _ _ (gH hl)
     have run:∀s1,s1.nx=s.nx->Ok c T G Γ ρ s1->be.ev ρ=b->(Gk cf rk an (ae ops i).op (some d) s1 K).Ok->Hv c T G Γ ops i s ρ K:=fun s1 n1 o1 e1 h1=>by
      rw[e1]at hT;have:=Ep (ops:=xY ops) (i:=i) hP hΦ hK hR (wJ ops i) (by rw[DS];exact hlt) (by rw[Ik,DS,hd];exact h1) o1;exact Hv.to n1 (Ct hg hdg hT this)
     have idle:∀s1,s1.nx=s.nx->Ok c T G Γ ρ s1->be.ev ρ≠b->(K (eG s1 d .undef)).Ok->Hv c T G Γ ops i s ρ K:=fun s1 n1 o1 e1 h1 =>
      Hv.to n1 (Lo.hv hd (hlt d hd) (Lo.here o1 (v:=.undef) h1 (uG hg hdg hT e1)))
     obtain⟨s1,n1,_,o1,h1|h1⟩:=nF h hk
     ·obtain⟨e1,h1⟩:=h1;cases b with
      |true=>exact run s1 n1 o1 e1 h1
      |false=>exact idle s1 n1 o1 (by rw[e1];decide) h1
     ·obtain⟨e1,h1⟩:=h1;cases b with
      |true=>exact idle s1 n1 o1 (by rw[e1];decide) h1
      |false=>exact run s1 n1 o1 e1 h1
    ·rename_i hl;exact Lo.hv hd (hlt d hd) (Lo.here hk (v:=.undef) h (uH hg hdg (hk.q.at_ _ _ (gH hl))))
    ·cases h
   ·cases h
def KR (c:Cx)(s:SS)(ρ:bm)(K:Ex->SS->R)(e:Ex)(T:Tm)(hp:Tr AO)(nx:Pz)(G:GH):Prop:=hp=.e/\nx=z 0/\∃Γ ρ' s',(K e s').Ok/\dh s.nx ρ ρ'/\s.nx<=s'.nx/\Ok c T G Γ ρ' s'
theorem KR.up {K:Ex->SS->R}{e:Ex}{hp:Tr AO}{nx:Pz}(ha:dh s.nx ρ ρ')(hn:s.nx<=s'.nx)(h:KR c s' ρ' K e T hp nx G):KR c s ρ K e T hp nx G:=by
 obtain⟨h1,h2,Γ,ρ2,s2,h3,h4,h5,h6⟩:=h;exact⟨h1,h2,Γ,ρ2,s2,h3,ha.trans h4 hn,by omega,h6⟩
def T9 (cf:Cf)(rk:Rk)(an:Nat->An)(ops:Array Oper)(i:Nat)(m:Nat)(s:SS)(K:SS->R):R:=match m with
 |0=>K s
 |m+1=>cR cf rk (an i) ops i s fun s=>T9 cf rk an ops (i+1) m s K
theorem Jq {an:Nat->An}{K:Ex->SS->R}(hP:cf.P=c.P)(hΦ:cf.Φ=c.Φ)(hnt:cf.nt=c.nt)(hK:dJ cf):∀{m i:Nat}{T:Tm}{G:GH}{Γ:dI}{ρ:bm}{s:SS},i+m=ops.size->vy c rk ρ->rk.ms.lt s.nx=true->(T9 cf rk an ops i m s (K .gE)).Ok->Ok c T G Γ ρ s->lb c.P c.n0 c.nt ops i m T .e (z 0) G (KR c s ρ K)
 |0,i,T,G,Γ,ρ,s,_,_,_,h,hk=>HA ⟨rfl,rfl,Γ,ρ,s,h,dh.refl _ _,zad _,hk⟩
 |m+1,i,T,G,Γ,ρ,s,hi,hR,hm,h,hk=>by
  have hh:=Jp hP hΦ hnt hK hR (show (cR cf rk (an i) ops i s (fun s=>T9 cf rk an ops (i+1) m s (K .gE))).Ok from h) hk;refine Ky (by omega) (fI.mono hh fun T' hp' nx' G' ⟨e1,e2,Γ',ρ',s',h1,h2,h3,h4⟩=>?_);subst e1 e2;have:=Jq (K:=K) hP hΦ hnt hK (by omega) (hR.cg hm h2) (LE.Ra hm h3) h1 h4;exact fun B w0 w ι a hs Q hn=>this B w0 w ι a hs Q fun e T2 hp2 nx2 G2 ι2 a2 w2 k1 k2=>hn e T2 hp2 nx2 G2 ι2 a2 w2 (KR.up h2 h3 k1) k2
end
end Go.Rd
namespace Go.aK
open Go.RowKit
section
variable {P:Program}{n0 nt:Nat}{T:Tm}{hp:Tr AO}{nx:Pz}{G:GH}{ops:Array Oper}{aI:List Nat}{f:Nat}{ce ch:List Nat}{K:Tm->Tr AO->Pz->GH->Prop}
theorem Bc (hm:((HF ops aI ce ch).isEmpty&&ce.all fun i=>aI.contains i)=true)(hne:wo ops aI ce ch≠[])(zm:∀h∈wo ops aI ce ch,fI P n0 nt ops h T hp nx G fun T' hp' nx' G' =>
      (∀i∈xR ops ce (h::ch),∀d,(ae ops i).dst=some d->ba P ops n0 nt i T' hp' nx' G' (T'.at d))/\JP P n0 nt ops aI f ce (h::ch) T' hp' nx' G' K):JP P n0 nt ops aI (f+1) ce ch T hp nx G K:=by
 intro B w0 ι a w hs Z hz
 obtain⟨h,hh⟩:∃h,h∈wo ops aI ce ch:=by
  cases hc:wo ops aI ce ch with
  |nil=>exact absurd hc hne
  |cons h l=>exact⟨h,zac ..⟩
 rw[za,zb]at hm;obtain⟨hm,hce⟩:=hm;refine .inr ⟨fun i hi hlt hc hd=>?_,fun hall=>?_,fun g hlt hl hc hd=>?_⟩
 ·have:i∈HF ops aI ce ch:=List.mem_filter.2 ⟨List.mem_range.2 hlt,by
    rw[Au (l:=ce++ch) (fun j hj=>List.mem_append.2 hj) hd]
    simp[hi,hc]⟩
  rw[List.isEmpty_iff.1 hm]at this;simp at this
 ·exfalso;obtain⟨q1,q2⟩:=List.mem_filter.1 hh;simp only[za,zam]at q2;rcases hall h (List.mem_range.1 q1)with hc|hc
  ·have:=hce h hc;rw[this]at q2;exact absurd q2.1 (by decide)
  ·rw[<-zbl]at hc;rw[hc]at q2;exact absurd q2.2.1 (by decide)
 ·have hg:g∈wo ops aI ce ch:=List.mem_filter.2 ⟨List.mem_range.2 hlt,by
    rw[Au (l:=ce++ch) (fun j hj=>List.mem_append.2 hj) hd]
    simp[hl,hc]⟩
  have zm:=zm g hg
  have h2:∀a' w',(∃T' hp' nx' G' ι2,((∀i∈xR ops ce (g::ch),∀d,(ae ops i).dst=some d->ba P ops n0 nt i T' hp' nx' G' (T'.at d))/\JP P n0 nt ops aI f ce (g::ch) T' hp' nx' G' K)/\dX n0 B w0 nt T' hp' nx' G' ι2 a' w') ->
    (∀i d,i∈ce->(ae ops i).dst=some d->(∀g',(g'=g∨g'∈ch)->¬bf ops g' i)->Yv P ops (ae ops i) a' w' (tv a' d))/\Dr P ops aI Z f (fun j=>j∈ce) (fun j=>j=g∨j∈ch) a' w':=by
   rintro a' w' ⟨T',hp',nx',G',ι2,⟨g1,g2⟩,g5⟩
   refine⟨fun i d hi hdd hp=>?_,?_⟩
   ·have zm:i∈xR ops ce (g::ch):=List.mem_filter.2 ⟨hi,by
      rw[zb];intro g' hg';have:=hp g' (List.mem_cons.1 hg');unfold bf at this;cases hb:bit (Region.before ops) g' i with
      |false=>rfl
      |true=>exact absurd hb this⟩
    have:=g1 i zm d hdd B w0 ι2 a' w' g5;rw[show tv a' d=ak ι2 (T'.at d)from (g5.1.2 ι2 (ao.refl _ _)).1.val d];exact this
   ·have:=g2 B w0 ι2 a' w' g5 Z hz;have e:(fun j=>j∈g::ch)=fun j=>j=g∨j∈ch:=funext fun j=>by simp
    rw[e]at this;exact this
  rcases zm B w0 ι a w hs with ⟨p1,p2⟩|⟨p1,p2⟩
  ·exact .inl ⟨p1,p2.mono fun cv w' q=>h2 _ _ q⟩
  ·exact .inr ⟨p1,h2 _ _ p2⟩
theorem Be {K':Tm->Tr AO->Pz->GH->Prop}(h:JP P n0 nt ops aI f ce ch T hp nx G K)(hk:∀T hp nx G,K T hp nx G->K' T hp nx G):JP P n0 nt ops aI f ce ch T hp nx G K' :=
 fun B w0 ι a w hs Z hz=>h B w0 ι a w hs Z fun T' hp' nx' G' ι2 a' w' k1 k2=>hz T' hp' nx' G' ι2 a' w' (hk _ _ _ _ k1) k2
end
end Go.aK
namespace Go.Rd
open Go.aK Go.RowKit Go.Rt
def Rb (cf:Cf)(y:Nat)(e:LE)(off n:Nat)(s:SS)(K:SS->R):R:=match oJ s.ty y with
 |some (cc,g)=>bif DP s y e then CA cf y e off n true cc g s (fun _ s=>K s)else .bad 511 s
 |none=>.bad 512 s
def Jr (y:Nat)(e:LE)(s:SS)(K:SS->R):R:=match yb s y e with
 |some w=>bif aX s (e.sub (.a (.len y)))then K (aF s (w.sub (.a (.wt y))))else .bad 513 s
 |none=>.bad 514 s
def Js (s:SS)(K:SS->R):R:=bif aX s (.k (-1))then .ok else K s
def Jt:K2->Bool|.yK _ _=>true|.AE _=>true|_=>false
theorem wW {Φ:Forms}{d:Gd}{g j:Nat}:∀{ks:List K2}{cs:List AV}{fs:List TF},iz Φ d g j ks cs fs->ks.any Jt=true->d.fz=true
 | [],_,_,_,h=>by cases h
 |k::ks,_,_,⟨v,cs',f,fs',h1,h2,h3,h4⟩,h=>by
  rw[List.any_cons,zaq]at h;rcases h with h|h
  ·cases k<;>first|(cases h;done)|skip
   ·obtain⟨ns,_,h,_⟩:=h3;exact h
   ·obtain⟨ns,_,h,_⟩:=h3;exact h
  ·exact wW h4 h
def Nq (s:SS)(d:Nat):SS:=⟨s.nx,s.L,s.os,s.ty,s.gs,s.fs,s.bs,s.pw,s.ats,s.dB,s.ne,d::s.fz,s.sb⟩
def Ju (cf:Cf)(y:Nat)(s:SS)(K:SS->R):R:=match pC s.ty y with
 |some (cc,g)=>(match ghost s.gs g with
  |some d=>bif (cf.Φ.ks cc).any Jt then K (Nq s d)else .bad 270 s
  |none=>.bad 271 s)
 |none=>.bad 272 s
inductive Ga where
 |ZX (y:Nat)
 |Xu (y:Nat) (e:LE)|abs
 |el (y:Nat) (e:LE) (off n:Nat)
 |new (ns:List (Nat×LE)) (sub:Nat)|Rc (ns:List (Nat×LE)) (sub b k:Nat)|aC (g k:Nat) (e:LE)|Xv (g:Nat)|Re (g x cc:Nat)|Rf (b cc g:Nat)|Rh (b cc g:Nat)|cap (b K:Nat)|Xw (b:Nat)|Xx (e:LE)|look (b:Nat) (k:SV)|rm (y:Nat)
def act (cf:Cf)(a:Ga)(s:SS)(K:SS->R):R:=match a with
 |.ZX y=>Ju cf y s K
 |.Xu y e=>Jr y e s K
 |.abs=>Js s K
 |.el y e off n=>Rb cf y e off n s K
 |.new ns sub=>IL ns sub s K
 |.Rc ns sub b k=>CQ ns sub b k s K
 |.aC g k e=>CR g k e s K
 |.Xv g=>IM g s K
 |.Re g x cc=>CY cf g x cc s K
 |.Rf b cc g=>CW cf b cc g s K
 |.Rh b cc g=>CX cf b cc g s K
 |.cap b k=>Jg cf b k s K
 |.Xw b=>Jh b s K
 |.Xx e=>bif aX s e then K (aF s e)else K s
 |.look b k=>C6 cf b k s K
 |.rm y=>Q4 cf y s K
def yF (cf:Cf):List (SS->Option Ga)->SS->(SS->R)->R
 | [],s,K=>K s
 |a::l,s,K=>match a s with
  |some g=>act cf g s fun s=>yF cf l s K
  |none=>yF cf l s K
section
variable {c:Cx}{T:Tm}{G G':GH}{Γ Γ':dI}{ρ ρ':bm}{s0 s s':SS}{cf:Cf}{rk:Rk}
theorem Ls {y off n:Nat}{e:LE}{K:SS->R}(hP:cf.P=c.P)(hΦ:cf.Φ=c.Φ)(h:(Rb cf y e off n s K).Ok)(hk:Ok c T G Γ ρ s):Ac c T G Γ s ρ K:=by
 unfold Rb at h;cases hf:oJ s.ty y with
 |none=>rw[hf]at h;cases h
 |some p =>
  obtain⟨cc,g⟩:=p;rw[hf]at h;simp only at h;cases hi:DP s y e with
  |false=>rw[hi]at h;cases h
  |true =>
   rw[hi]at h;have h:(CA cf y e off n true cc g s (fun _ s=>K s)).Ok:=h;obtain⟨cc',g',b0,o0,cp0,r1,r2,r3,r4,r5⟩:=ru hi hk;rw[hf]at r1;simp only[Option.some.injEq,Prod.mk.injEq]at r1;obtain⟨rfl,rfl⟩:=r1;obtain⟨ρ2,s2,a2,n2,o2,xs,b,o',cap,kd,el,size,C,g1,_⟩:=DQ hP hΦ h hk r3 r4 r5 hf;exact⟨G,Γ,ρ2,s2,sD.refl _,g1,a2,n2,o2⟩
theorem Jv {y:Nat}{e:LE}{K:SS->R}(h:(Jr y e s K).Ok)(hk:Ok c T G Γ ρ s):Ac c T G Γ s ρ K:=by
 unfold Jr at h;cases hw:yb s y e with
 |none=>rw[hw]at h;cases h
 |some w =>
  rw[hw]at h;simp only at h;cases hb:aX s (e.sub (.a (.len y)))with
  |false=>rw[hb]at h;cases h
  |true =>
   rw[hb]at h;have h1:=yd hw hk.sat;have h2:=av hb hk.sat;rw[LE.au,LE.aV]at h2;have h2:0<=e.ev ρ-((ρ y).ns.length:Int):=h2;rw[zc (by omega)]at h1;refine⟨G,Γ,ρ,_,sD.refl _,h,dh.refl _ _,zad _,hk.aF ?_⟩;rw[LE.au,LE.aV];show 0<=w.ev ρ-(((ρ y).ns.sum+(ρ y).ns.length:Nat):Int);omega
theorem Jw {K:SS->R}(h:(Js s K).Ok)(hk:Ok c T G Γ ρ s):Ac c T G Γ s ρ K:=by
 unfold Js at h;cases hb:aX s (.k (-1))with
 |false=>rw[hb]at h;exact⟨G,Γ,ρ,s,sD.refl _,h,dh.refl _ _,zad _,hk⟩
 |true =>
  have:=av hb hk.sat;rw[LE.bk]at this;omega
theorem Jx {y:Nat}{K:SS->R}(hΦ:cf.Φ=c.Φ)(h:(Ju cf y s K).Ok)(hk:Ok c T G Γ ρ s):Ac c T G Γ s ρ K:=by
 unfold Ju at h;cases hf:pC s.ty y with
 |none=>rw[hf]at h;cases h
 |some p =>
  obtain⟨cc,g⟩:=p;rw[hf]at h;simp only at h;cases hd:ghost s.gs g with
  |none=>rw[hd]at h;cases h
  |some d =>
   rw[hd,hΦ]at h;simp only at h;cases hb:(c.Φ.ks cc).any Jt with
   |false=>rw[hb]at h;cases h
   |true =>
    rw[hb]at h;obtain⟨b,L,m,size,C,_,_,_,_,_,_,⟨fs,w,_⟩⟩:=fF.deref (v:=(ρ y).vv) (c:=cc) (g:=ig ρ g) (hk.ty (jt hf)) hk.q.ht;have hz:=wW w hb;rw[bz hd hk]at hz
    exact⟨G,Γ,ρ,Nq s d,sD.refl _,h,dh.refl _ _,zad _,⟨hk.sat.fs,hk.sat.bs,hk.sat.pw,hk.sat.ats,hk.sat.dB,hk.sat.ne,fun e he=>by
     rcases List.mem_cons.1 he with rfl|he
     ·exact hz
     ·exact hk.sat.fz e he,hk.sat.sb⟩,hk.q⟩
theorem Ri {a:Ga}{K:SS->R}(hP:cf.P=c.P)(hΦ:cf.Φ=c.Φ)(h:(act cf a s K).Ok)(hk:Ok c T G Γ ρ s):Ac c T G Γ s ρ K:=by
 cases a with
 |ZX y=>exact Jx hΦ h hk
 |Xu y e=>exact Jv h hk
 |abs=>exact Jw h hk
 |el y e off n=>exact Ls hP hΦ h hk
 |new ns sub=>exact IQ h hk
 |Rc ns sub b k=>exact F7 h hk
 |aC g k e=>exact F8 h hk
 |Xv g=>exact IU h hk
 |Re g x cc=>exact Ge hΦ h hk
 |Rf b cc g=>exact F9 hP hΦ h hk
 |Rh b cc g=>exact Gc hΦ h hk
 |cap b k=>exact Jk hΦ h hk
 |Xw b=>exact Jl h hk
 |look b k=>exact Gj hΦ h hk
 |rm y=>exact Lp hΦ h hk
 |Xx e =>
  have h:(bif aX s e then K (aF s e)else K s).Ok:=h;cases he:aX s e with
  |false=>rw[he]at h;exact⟨G,Γ,ρ,s,sD.refl _,h,dh.refl _ _,zad _,hk⟩
  |true=>rw[he]at h;exact⟨G,Γ,ρ,_,sD.refl _,h,dh.refl _ _,zad _,hk.aF (av he hk.sat)⟩
theorem Gl {G G1 G2:GH}(h:sD G G1)(h':sD G1 G2):sD G G2:=fun b=>by
 rcases h b with e|⟨el,size,C,e1,e2⟩
 ·rcases h' b with e'|⟨el,size,C,e1,e2⟩
  ·exact .inl (e'.trans e)
  ·exact .inr ⟨el,size,C,by rw[<-e];exact e1,e2⟩
 ·rcases h' b with e'|⟨el',size',C',e1',e2'⟩
  ·exact .inr ⟨el,size,C,e1,e'.trans e2⟩
  ·rw[e2]at e1';cases e1'
theorem qJ (hP:cf.P=c.P)(hΦ:cf.Φ=c.Φ):∀{l:List (SS->Option Ga)}{T:Tm}{G:GH}{Γ:dI}{ρ:bm}{s:SS}{K:SS->R},(yF cf l s K).Ok->Ok c T G Γ ρ s->Ac c T G Γ s ρ K
 | [],T,G,Γ,ρ,s,K,h,hk=>⟨G,Γ,ρ,s,sD.refl _,h,dh.refl _ _,zad _,hk⟩
 |a::l,T,G,Γ,ρ,s,K,h,hk=>by
  unfold yF at h;split at h
  ·obtain⟨G1,Γ1,ρ1,s1,r1,k1,a1,n1,o1⟩:=Ri hP hΦ h hk;obtain⟨G2,Γ2,ρ2,s2,r2,k2,a2,n2,o2⟩:=qJ hP hΦ k1 o1;exact⟨G2,Γ2,ρ2,s2,Gl r1 r2,k2,a1.trans a2 n1,by omega,o2⟩
  ·exact qJ hP hΦ h hk
end
def again (cf:Cf)(ops:Array Oper)(i:Nat)(s:SS):R:=match (ae ops i).dst with
 |some d=>(match yL s.L d with
  |some w=>bif w.lt s.nx then Jo cf ops i s (fun v s2=>bif v.same w then .ok else .bad 420 s2)else .bad 421 s
  |none=>.bad 422 s)
 |none=>.ok
def Rj (ops:Array Oper)(nt i:Nat):Option Nat:=match (ae ops i).dst with|some d=>bif Nat.blt d nt then some d else none|none=>none
def SZ (cf:Cf)(rk:Rk)(an:Nat->An)(a2:Nat->List (SS->Option Ga))(ops:Array Oper)(lig:List Nat)(K:SS->R):Nat->List Nat->List Nat->SS->R
 |0,_,_,s=>.bad 423 s
 |f+1,ce,ch,s=>match HF ops lig ce ch with
  |i::_=>(match Rj ops cf.nt i with
   |some d=>bif lig.contains i&&(!ce.contains i&&(Nat.blt i ops.size&&uv ops (ce++ch) i))then Jo cf ops i s fun v s=>SZ cf rk an a2 ops lig K f (i::ce) ch (eG s d v)else .bad 424 s
   |none=>.bad 425 s)
  | []=>match wo ops lig ce ch with
    | []=>bif HG ops ce ch&&(((List.range ops.size).all fun i=>!lig.contains i||ce.contains i)&&((List.range ops.size).all fun i=>lig.contains i||ch.contains i))then K s else .bad 426 s
    |h::hs=>bif ce.all fun i=>lig.contains i then C5 ((h::hs).map fun h=>yF cf (a2 h) s fun s=>cR cf rk (an h) ops h s fun s=>(C5 ((xR ops ce (h::ch)).map fun i=>again cf ops i s)).and (SZ cf rk an a2 ops lig K f ce (h::ch) s))else .bad 427 s
section
variable {c:Cx}{T:Tm}{G G':GH}{Γ Γ':dI}{ρ ρ':bm}{s0 s s':SS}{ops:Array Oper}{i d:Nat}{cf:Cf}{rk:Rk}
theorem ui (hP:cf.P=c.P)(hΦ:cf.Φ=c.Φ)(hK:dJ cf)(h:(again cf ops i s).Ok)(hd:(ae ops i).dst=some d)(hk:Ok c T G Γ ρ s):ba c.P ops c.n0 c.nt i T .e (z 0) G (T.at d):=by
 unfold again at h;rw[hd]at h;simp only at h;split at h
 ·rename_i w hw;cases hb:w.lt s.nx with
  |false=>rw[hb]at h;cases h
  |true =>
   rw[hb]at h;obtain⟨ρ2,s2,a,n,o,v,h1,h2⟩:=Eo hP hΦ hK (show (Jo cf ops i s (fun v s2=>bif v.same w then .ok else .bad 420 s2)).Ok from h) hk;have h1:((bif v.same w then R.ok else .bad 420 s2)).Ok:=h1;cases hs:v.same w with
   |false=>rw[hs]at h1;cases h1
   |true =>
    rw[hk.q.at_ _ _ (gH hw),<-SV.cg a hb,<-SV.bc hs ρ2];exact h2
 ·cases h
theorem Lu {nt:Nat}(h:Rj ops nt i=some d):(ae ops i).dst=some d/\d<nt:=by
 unfold Rj at h;split at h
 ·rename_i d' hd;cases hb:Nat.blt d' nt with
  |false=>rw[hb]at h;cases h
  |true=>rw[hb]at h;cases h;exact⟨hd,ax hb⟩
 ·cases h
theorem Lv {h:Nat}{R:Tm->Tr AO->Pz->GH->Prop}{n0 nt:Nat}{P:Program}{hp:Tr AO}{nx:Pz}(hr:sD G G')(hs:fI P n0 nt ops h T hp nx G' R):fI P n0 nt ops h T hp nx G R:=fun B w0 ι a w h=>hs B w0 ι a w (A4 h hr)
theorem C8 {an:Nat->An}{a2:Nat->List (SS->Option Ga)}{lig:List Nat}{K:Ex->SS->R}(hP:cf.P=c.P)(hΦ:cf.Φ=c.Φ)(hnt:cf.nt=c.nt)(hK:dJ cf):∀{f:Nat}{ce ch:List Nat}{T:Tm}{G:GH}{Γ:dI}{ρ:bm}{s:SS},vy c rk ρ->rk.ms.lt s.nx=true->(SZ cf rk an a2 ops lig (K .gE) f ce ch s).Ok->Ok c T G Γ ρ s->JP c.P c.n0 c.nt ops lig f ce ch T .e (z 0) G (KR c s ρ K .gE)
 |0,ce,ch,T,G,Γ,ρ,s,_,_,h,_=>by cases h
 |f+1,ce,ch,T,G,Γ,ρ,s,hR,hm,h,hk=>by
  unfold SZ at h;split at h
  ·rename_i i l hn;split at h
   ·rename_i d hd;cases hb:(lig.contains i&&(!ce.contains i&&(Nat.blt i ops.size&&uv ops (ce++ch) i)))with
    |false=>rw[hb]at h;cases h
    |true =>
     rw[hb]at h;simp only[cond_true]at h;obtain⟨d1,d2⟩:=Lu hd;obtain⟨ρ2,s2,a,n,o,v,h1,h2⟩:=Eo hP hΦ hK h hk;refine FI hb h2 d1 (by rw[<-hnt];exact d2) ?_;exact Be (C8 (s:=eG s2 d v) (K:=K) hP hΦ hnt hK (hR.cg hm a) (LE.Ra hm n) h1 (o.put d)) fun T' hp' nx' G' hh=>KR.up (s':=eG s2 d v) a n hh
   ·cases h
  ·rename_i hn;split at h
   ·rename_i hh;cases hb:(HG ops ce ch&&(((List.range ops.size).all fun i=>!lig.contains i||ce.contains i)&&((List.range ops.size).all fun i=>lig.contains i||ch.contains i)))with
    |false=>rw[hb]at h;cases h
    |true =>
     rw[hb]at h;simp only[za]at hb;exact Kz hb.1 hb.2.1 hb.2.2 ⟨rfl,rfl,Γ,ρ,s,h,dh.refl _ _,zad _,hk⟩
   ·rename_i g gs hh;cases hb:(ce.all fun i=>lig.contains i)with
    |false=>rw[hb]at h;cases h
    |true =>
     rw[hb]at h;simp only[cond_true]at h;refine Bc (by rw[hn,hb];rfl) (by rw[hh];exact List.cons_ne_nil _ _) fun h0 hm0=>?_;rw[hh]at hm0;have h1:=tw h _ (List.mem_map.2 ⟨h0,hm0,rfl⟩);obtain⟨G1,Γ1,ρ1,s1,r1,j1,a1,n1,o1⟩:=qJ hP hΦ h1 hk;have hv:=Jp hP hΦ hnt hK (hR.cg hm a1) j1 o1;refine Lv r1 (fI.mono hv fun T' hp' nx' G' ⟨e1,e2,Γ',ρ',s',k1,k2,k3,k4⟩=>?_);subst e1 e2;have k2:dh s.nx ρ ρ':=a1.trans k2 n1;have k3:s.nx<=s'.nx:=zay n1 k3;obtain⟨k5,k6⟩:=R.eW k1;refine⟨fun i hi d hd=>ui hP hΦ hK (tw k5 _ (List.mem_map.2 ⟨i,hi,rfl⟩)) hd k4,?_⟩;exact Be (C8 hP hΦ hnt hK (hR.cg hm k2) (LE.Ra hm k3) k6 k4) fun T2 hp2 nx2 G2 hh2=>KR.up k2 k3 hh2
end
end Go.Rd
namespace Go.Rd
open Go.aK Go.RowKit Go.Rt
structure Gu where
 an:Nat->SS->Nat->An
 ac:Nat->List (SS->Option Ga)
 lp:Nat->SS->Option (SS×LE)
 jn:Nat->SS->Option SS
 dr:Nat->List Nat
 un:Nat->Nat
 a2:Nat->Nat->List (SS->Option Ga)
 dd:Nat->SS->Bool
def Nr (Φ:Forms)(base:Nat)(s0 s:SS):R:=bif sub Φ s0 s ⟨base,uW base s0 s []⟩then .ok else .bad 501 s
def Ua (Φ:Forms)(base:Nat)(s0:SS)(mu:LE)(s:SS):R :=
 let σ:Su:=⟨base,uW base s0 s []⟩
 bif sub Φ s0 s σ then (match sE σ mu with|some e=>bif aX s e&&aX s ((mu.sub e).aO (-1))then .ok else .bad 502 s|none=>.bad 503 s)else .bad 504 s
def Rm (K:Ex->SS->R)(x:SS->R):Ex->SS->R
 |.gE=>x
 |.ext j=>K (.ext j)
 |.ret=>K .ret
def uY (Φ:Forms)(body:SS->(Ex->SS->R)->R)(base:Nat)(s0:SS)(mu:LE)(dd:SS->Bool)(K:Ex->SS->R):Nat->SS->R
 |0,s=>Ua Φ base s0 mu s
 |n+1,s=>bif dd s then body s (Rm K (uY Φ body base s0 mu dd K n))else match Ua Φ base s0 mu s with
  |.ok=>.ok
  |_=>body s (Rm K (uY Φ body base s0 mu dd K n))
def Wi (id:Nat)(K:Ex->SS->R)(x:SS->R):Ex->SS->R
 |.gE=>x
 |.ext j=>bif Nat.beq j id then x else K (.ext j)
 |.ret=>K .ret
def ex (cf:Cf)(rk:Rk)(gu:Gu):Code->Nat->SS->(Ex->SS->R)->R
 |.skip,_,s,K=>K .gE s
 |.seq x y,l,s,K=>ex cf rk gu x l s (Rm K fun s=>ex cf rk gu y l s K)
 |.cond (.tmp t) x y,l,s,K=>(match yL s.L t with
  |some (.v false [.bool be])=>split s be (fun s=>ex cf rk gu x l s K) (fun s=>ex cf rk gu y l s K)
  |_=>.bad 505 s)
 |.cond (.const (.bool true)) x _,l,s,K=>ex cf rk gu x l s K
 |.cond (.const (.bool false)) _ y,l,s,K=>ex cf rk gu y l s K
 |.block id x,_,s,K=>(match gu.jn id s with
  |none=>ex cf rk gu x id s (Wi id K (K .gE))
  |some sj=>bif Nat.ble s.nx sj.nx then (ex cf rk gu x id s (Wi id K (Nr cf.Φ s.nx sj))).and (K .gE sj)else .bad 506 s)
 |.loop x,l,s,K=>(match gu.lp l s with
  |some (s0,mu)=>bif Nat.ble s.nx s0.nx&&(mu.lt s0.nx&&aX s0 mu)then (Nr cf.Φ s.nx s0 s).and (ex cf rk gu x l s0 (Rm K (uY cf.Φ (fun s K=>ex cf rk gu x l s K) s.nx s0 mu (gu.dd l) K (gu.un l))))else .bad 507 s
  |none=>.bad 508 s)
 |.exit id,_,s,K=>K (.ext id) s
 |.ret,_,s,K=>K .ret s
 |.region id ops false,_,s,K=>yF cf (gu.ac id) s fun s=>T9 cf rk (gu.an id s) ops 0 ops.size s (K .gE)
 |.region id ops true,_,s,K=>yF cf (gu.ac id) s fun s=>bif SG ops (gu.dr id) cf.nt then SZ cf rk (gu.an id s) (gu.a2 id) ops (gu.dr id) (K .gE) (ops.size+1) [] [] s else .bad 509 s
 |_,_,s,_=>.bad 510 s
section
variable {c:Cx}{T:Tm}{G G':GH}{Γ Γ':dI}{ρ ρ':bm}{s0 s s':SS}{cf:Cf}{rk:Rk}{gu:Gu}{co:Code}
theorem uZ {K:Ex->Tm->Tr AO->Pz->GH->Prop}{n0 nt:Nat}{P:Program}{hp:Tr AO}{nx:Pz}(hr:sD G G')(h:fq P n0 nt co T hp nx G' K):fq P n0 nt co T hp nx G K:=fun B w0 w ι a hs=>h B w0 w ι a (A4 hs hr)
theorem Jy {base:Nat}(h:(Nr c.Φ base s0 s).Ok)(hk:Ok c T G Γ ρ s):∃ρ',dh base ρ ρ'/\Ok c T G Γ ρ' s0:=by
 unfold Nr at h;cases hb:sub c.Φ s0 s ⟨base,uW base s0 s []⟩with
 |false=>rw[hb]at h;cases h
 |true=>exact⟨_,Su.cg ⟨base,_⟩ ρ,yE hb hk⟩
theorem Rn {base:Nat}{mu:LE}(h:(Ua c.Φ base s0 mu s).Ok)(hk:Ok c T G Γ ρ s):∃ρ',dh base ρ ρ'/\Ok c T G Γ ρ' s0/\0<=mu.ev ρ'/\mu.ev ρ'<mu.ev ρ:=by
 unfold Ua at h;simp only at h;cases hb:sub c.Φ s0 s ⟨base,uW base s0 s []⟩with
 |false=>rw[hb]at h;cases h
 |true =>
  rw[hb]at h;simp only[cond_true]at h
  have hσ:ju ρ ⟨base,uW base s0 s []⟩:=by
   have b1:=hb;unfold sub at b1;rw[za]at b1;exact (lz b1.1 hk.sat).1
  split at h
  ·rename_i e he;cases hb2:(aX s e&&aX s ((mu.sub e).aO (-1)))with
   |false=>rw[hb2]at h;cases h
   |true =>
    rw[za]at hb2;have a1:=av hb2.1 hk.sat;have a2:=av hb2.2 hk.sat;rw[LE.aE,LE.au]at a2;have e1:=fe hσ he;exact⟨_,Su.cg ⟨base,_⟩ ρ,yE hb hk,by rw[<-e1];exact a1,by rw[<-e1];omega⟩
  ·cases h
theorem KR.run {K:Ex->SS->R}{n0 nt:Nat}{P:Program}{hp:Tr AO}{nx:Pz}(ha:dh s.nx ρ ρ')(hn:s.nx<=s'.nx)(h:fq P n0 nt co T hp nx G (KR c s' ρ' K)):fq P n0 nt co T hp nx G (KR c s ρ K):=jH h fun e T hp nx G hh=>hh.up ha hn
theorem oK (hP:cf.P=c.P)(hΦ:cf.Φ=c.Φ)(hnt:cf.nt=c.nt)(hK:dJ cf)(hmix:c.P.follows .mixedOrders=true):∀{co:Code}{l:Nat}{T:Tm}{G:GH}{Γ:dI}{ρ:bm}{s:SS}{K:Ex->SS->R},vy c rk ρ->rk.ms.lt s.nx=true->(ex cf rk gu co l s K).Ok->Ok c T G Γ ρ s->fq c.P c.n0 c.nt co T .e (z 0) G (KR c s ρ K)
 |.skip,l,T,G,Γ,ρ,s,K,hR,hm,h,hk=>Cg ⟨rfl,rfl,Γ,ρ,s,h,dh.refl _ _,zad _,hk⟩
 |.exit id,l,T,G,Γ,ρ,s,K,hR,hm,h,hk=>Ce ⟨rfl,rfl,Γ,ρ,s,h,dh.refl _ _,zad _,hk⟩
 |.ret,l,T,G,Γ,ρ,s,K,hR,hm,h,hk=>FH ⟨rfl,rfl,Γ,ρ,s,h,dh.refl _ _,zad _,hk⟩
 |.seq x y,l,T,G,Γ,ρ,s,K,hR,hm,h,hk=>by
  have h:(ex cf rk gu x l s (Rm K fun s=>ex cf rk gu y l s K)).Ok:=h;refine FG (jH (oK hP hΦ hnt hK hmix hR hm h hk) fun e T' hp' nx' G' hh=>?_);obtain⟨e1,e2,Γ',ρ',s',k1,k2,k3,k4⟩:=hh;subst e1 e2;cases e with
  |gE=>exact KR.run k2 k3 (oK hP hΦ hnt hK hmix (hR.cg hm k2) (LE.Ra hm k3) k1 k4)
  |ext j=>exact⟨rfl,rfl,Γ',ρ',s',k1,k2,k3,k4⟩
  |ret=>exact⟨rfl,rfl,Γ',ρ',s',k1,k2,k3,k4⟩
 |.cond cd x y,l,T,G,Γ,ρ,s,K,hR,hm,h,hk=>by
  cases cd with
  |tmp t =>
   have h:((match yL s.L t with
    |some (.v false [.bool be])=>split s be (fun s=>ex cf rk gu x l s K) (fun s=>ex cf rk gu y l s K)
    |_=>.bad 505 s)).Ok:=h
   split at h
   ·rename_i be hl;have hT:T.at t=.bool (be.ev ρ):=hk.q.at_ _ _ (gH hl);obtain⟨s1,n1,_,o1,h1|h1⟩:=nF h hk
    ·obtain⟨e1,h1⟩:=h1;rw[e1]at hT;exact sU hT (KR.run (by rw[<-n1];exact dh.refl _ _) (by omega) (oK hP hΦ hnt hK hmix hR (by rw[n1];exact hm) h1 o1))
    ·obtain⟨e1,h1⟩:=h1;rw[e1]at hT;exact q9 hT (KR.run (by rw[<-n1];exact dh.refl _ _) (by omega) (oK hP hΦ hnt hK hmix hR (by rw[n1];exact hm) h1 o1))
   ·cases h
  |const v =>
   cases v with
   |bool b =>
    cases b with
    |true=>exact lq (oK hP hΦ hnt hK hmix hR hm (show (ex cf rk gu x l s K).Ok from h) hk)
    |false=>exact lq (oK hP hΦ hnt hK hmix hR hm (show (ex cf rk gu y l s K).Ok from h) hk)
   |_=>cases h
  |func f=>cases h
  |global g=>cases h
 |.block id x,l,T,G,Γ,ρ,s,K,hR,hm,h,hk=>by
  have h:((match gu.jn id s with
   |none=>ex cf rk gu x id s (Wi id K (K .gE))
   |some sj=>bif Nat.ble s.nx sj.nx then (ex cf rk gu x id s (Wi id K (Nr cf.Φ s.nx sj))).and (K .gE sj)else .bad 506 s)).Ok:=h
  split at h
  ·refine sn (jH (oK hP hΦ hnt hK hmix hR hm h hk) fun e T' hp' nx' G' hh=>?_);obtain⟨e1,e2,Γ',ρ',s',k1,k2,k3,k4⟩:=hh;cases e with
   |gE=>exact⟨e1,e2,Γ',ρ',s',k1,k2,k3,k4⟩
   |ret=>exact⟨e1,e2,Γ',ρ',s',k1,k2,k3,k4⟩
   |ext j =>
    show KR c s ρ K (if j=id then .gE else .ext j) T' hp' nx' G';have k1:((bif Nat.beq j id then K .gE else K (.ext j)) s').Ok:=k1;by_cases hj:j=id
    ·subst hj;rw[if_pos rfl];rw[zcm]at k1;exact⟨e1,e2,Γ',ρ',s',k1,k2,k3,k4⟩
    ·rw[if_neg hj]
     have hb:Nat.beq j id=false:=by
      cases hb:Nat.beq j id with
      |false=>rfl
      |true=>exact absurd (aj hb) hj
     rw[hb]at k1;exact⟨e1,e2,Γ',ρ',s',k1,k2,k3,k4⟩
  ·rename_i sj hj0;cases hb:Nat.ble s.nx sj.nx with
   |false=>rw[hb]at h;cases h
   |true =>
    rw[hb]at h;simp only[cond_true]at h;have hn:=aN hb;obtain⟨h1,h2⟩:=R.eW h;rw[hΦ]at h1
    have fin:∀{T':Tm} {hp':Tr AO} {nx':Pz} {G':GH} {Γ':dI} {ρ':bm} {s':SS},hp'=.e->nx'=z 0->(Nr c.Φ s.nx sj s').Ok->dh s.nx ρ ρ'->Ok c T' G' Γ' ρ' s'->KR c s ρ K .gE T' hp' nx' G':=fun e1 e2 ht ha ho=>by
     obtain⟨ρ2,a2,o2⟩:=Jy ht ho;exact⟨e1,e2,_,ρ2,sj,h2,ha.trans a2 (zad _),hn,o2⟩
    refine sn (jH (oK hP hΦ hnt hK hmix hR hm h1 hk) fun e T' hp' nx' G' hh=>?_);obtain⟨e1,e2,Γ',ρ',s',k1,k2,k3,k4⟩:=hh;cases e with
    |gE=>exact fin e1 e2 k1 k2 k4
    |ret=>exact⟨e1,e2,Γ',ρ',s',k1,k2,k3,k4⟩
    |ext j =>
     show KR c s ρ K (if j=id then .gE else .ext j) T' hp' nx' G';have k1:((bif Nat.beq j id then Nr c.Φ s.nx sj else K (.ext j)) s').Ok:=k1;by_cases hj:j=id
     ·subst hj;rw[if_pos rfl];rw[zcm]at k1;exact fin e1 e2 k1 k2 k4
     ·rw[if_neg hj]
      have hb:Nat.beq j id=false:=by
       cases hb:Nat.beq j id with
       |false=>rfl
       |true=>exact absurd (aj hb) hj
      rw[hb]at k1;exact⟨e1,e2,Γ',ρ',s',k1,k2,k3,k4⟩
 |.loop x,l,T,G,Γ,ρ,s,K,hR,hm,h,hk=>by
  have h:((match gu.lp l s with
   |some (s0,mu)=>bif Nat.ble s.nx s0.nx&&(mu.lt s0.nx&&aX s0 mu)then (Nr cf.Φ s.nx s0 s).and (ex cf rk gu x l s0 (Rm K (uY cf.Φ (fun s K=>ex cf rk gu x l s K) s.nx s0 mu (gu.dd l) K (gu.un l))))else .bad 507 s
   |none=>.bad 508 s)).Ok:=h
  split at h
  ·rename_i s0 mu hl;cases hb:(Nat.ble s.nx s0.nx&&(mu.lt s0.nx&&aX s0 mu))with
   |false=>rw[hb]at h;cases h
   |true =>
    rw[hb]at h;simp only[cond_true]at h;simp only[za]at hb;obtain⟨b1,b2,b3⟩:=hb;have b1:=aN b1;obtain⟨h1,h2⟩:=R.eW h;rw[hΦ]at h1 h2;obtain⟨ρ1,a1,o1⟩:=Jy h1 hk
    have key:∀N:Nat,
      (∀(T:Tm) (G:GH) (Γ:dI) (ρ2:bm),dh s.nx ρ ρ2->Ok c T G Γ ρ2 s0->(mu.ev ρ2).toNat*(gu.un l+1)+(gu.un l+1)<=N->lY c.P c.n0 c.nt x N T .e (z 0) G (KR c s ρ K)) /\
      (∀(u:Nat) (T:Tm) (G:GH) (Γ:dI) (ρ2 ρ':bm) (s':SS),dh s.nx ρ ρ2->dh s0.nx ρ2 ρ'->s0.nx<=s'.nx->(uY c.Φ (fun s K=>ex cf rk gu x l s K) s.nx s0 mu (gu.dd l) K u s').Ok->Ok c T G Γ ρ' s'->(mu.ev ρ2).toNat*(gu.un l+1)+u<=N->lY c.P c.n0 c.nt x N T .e (z 0) G (KR c s ρ K)):=by
     have back:∀(N:Nat) (T:Tm) (G:GH) (Γ:dI) (ρ2 ρ':bm) (s':SS),(∀(T:Tm) (G:GH) (Γ:dI) (ρ2:bm),dh s.nx ρ ρ2->Ok c T G Γ ρ2 s0->(mu.ev ρ2).toNat*(gu.un l+1)+(gu.un l+1)<=N->lY c.P c.n0 c.nt x N T .e (z 0) G (KR c s ρ K))->dh s.nx ρ ρ2->dh s0.nx ρ2 ρ'->(Ua c.Φ s.nx s0 mu s').Ok->Ok c T G Γ ρ' s'->(mu.ev ρ2).toNat*(gu.un l+1)<=N->lY c.P c.n0 c.nt x N T .e (z 0) G (KR c s ρ K):=fun N T G Γ ρ2 ρ' s' ih a2 a3 ht ho hN=>by
      obtain⟨ρ3,b3,o3,m1,m2⟩:=Rn ht ho;have e3:mu.ev ρ'=mu.ev ρ2:=LE.cg a3 b2;have aa:dh s.nx ρ ρ':=a2.trans a3 b1;refine ih T G Γ ρ3 (aa.trans b3 (zad _)) o3 ?_;have:((mu.ev ρ3).toNat+1)*(gu.un l+1)<=(mu.ev ρ2).toNat*(gu.un l+1):=zae _ (by omega);rw[zau]at this;omega
     intro N
     induction N with
     |zero =>
      refine⟨fun T G Γ ρ2 a2 o2 hN=>by omega,fun u T G Γ ρ2 ρ' s' a2 a3 hn hl ho hN=>?_⟩;cases u with
      |zero=>exact back 0 T G Γ ρ2 ρ' s' (fun T G Γ ρ2 a2 o2 hN=>by omega) a2 a3 hl ho (by omega)
      |succ u=>omega
     |succ N ih =>
      obtain⟨ih1,ih2⟩:=ih
      have go:∀(u:Nat) (T:Tm) (G:GH) (Γ:dI) (ρ2 ρ':bm) (s':SS),dh s.nx ρ ρ2->dh s0.nx ρ2 ρ'->s0.nx<=s'.nx->(ex cf rk gu x l s' (Rm K (uY c.Φ (fun s K=>ex cf rk gu x l s K) s.nx s0 mu (gu.dd l) K u))).Ok->Ok c T G Γ ρ' s'->(mu.ev ρ2).toNat*(gu.un l+1)+u<=N->lY c.P c.n0 c.nt x (N+1) T .e (z 0) G (KR c s ρ K):=fun u T G Γ ρ2 ρ' s' a2 a3 hn hx ho hN=>by
       have aa:dh s.nx ρ ρ':=a2.trans a3 b1;refine Ar (jH (oK hP hΦ hnt hK hmix (hR.cg hm aa) (LE.Ra hm (zay b1 hn)) hx ho) fun e T' hp' nx' G' hh=>?_);obtain⟨e1,e2,Γ',ρ3,s3,k1,k2,k3,k4⟩:=hh;subst e1 e2;cases e with
       |gE=>exact ih2 u T' G' Γ' ρ2 ρ3 s3 a2 (a3.trans k2 hn) (zay hn k3) k1 k4 hN
       |ext j=>exact⟨rfl,rfl,Γ',ρ3,s3,k1,aa.trans k2 (zay b1 hn),by omega,k4⟩
       |ret=>exact⟨rfl,rfl,Γ',ρ3,s3,k1,aa.trans k2 (zay b1 hn),by omega,k4⟩
      have fst:∀(T:Tm) (G:GH) (Γ:dI) (ρ2:bm),dh s.nx ρ ρ2->Ok c T G Γ ρ2 s0->(mu.ev ρ2).toNat*(gu.un l+1)+(gu.un l+1)<=N+1->lY c.P c.n0 c.nt x (N+1) T .e (z 0) G (KR c s ρ K):=fun T G Γ ρ2 a2 o2 hN=>go (gu.un l) T G Γ ρ2 ρ2 s0 a2 (dh.refl _ _) (zad _) h2 o2 (by omega);refine⟨fst,fun u T G Γ ρ2 ρ' s' a2 a3 hn hl ho hN=>?_⟩;cases u with
      |zero=>exact back (N+1) T G Γ ρ2 ρ' s' fst a2 a3 hl ho (by omega)
      |succ u =>
       unfold uY at hl;cases hd:gu.dd l s' with
       |true=>rw[hd]at hl;exact go u T G Γ ρ2 ρ' s' a2 a3 hn hl ho (by omega)
       |false =>
        rw[hd]at hl;simp only[cond_false]at hl;split at hl
        ·rename_i ht;exact back (N+1) T G Γ ρ2 ρ' s' fst a2 a3 (by rw[ht];trivial) ho (by omega)
        ·exact go u T G Γ ρ2 ρ' s' a2 a3 hn hl ho (by omega)
    exact Cd _ ((key _).1 T G Γ ρ1 a1 o1 (zad _))
  ·cases h
 |.region id ops dr,l,T,G,Γ,ρ,s,K,hR,hm,h,hk=>by
  cases dr with
  |false =>
   have h:(yF cf (gu.ac id) s (fun s=>T9 cf rk (gu.an id s) ops 0 ops.size s (K .gE))).Ok:=h;obtain⟨G1,Γ1,ρ1,s1,r1,k1,a1,n1,o1⟩:=qJ hP hΦ h hk;exact uZ r1 (KR.run a1 n1 (xQ rfl (Jq hP hΦ hnt hK (by omega) (hR.cg hm a1) (LE.Ra hm n1) k1 o1)))
  |true =>
   have h:(yF cf (gu.ac id) s (fun s=>bif SG ops (gu.dr id) cf.nt then SZ cf rk (gu.an id s) (gu.a2 id) ops (gu.dr id) (K .gE) (ops.size+1) [] [] s else .bad 509 s)).Ok:=h;obtain⟨G1,Γ1,ρ1,s1,r1,k1,a1,n1,o1⟩:=qJ hP hΦ h hk;cases hb:SG ops (gu.dr id) cf.nt with
   |false=>rw[hb]at k1;cases k1
   |true =>
    rw[hb]at k1;exact uZ r1 (KR.run a1 n1 (Ci hmix _ (by rw[<-hnt];exact hb) (C8 hP hΦ hnt hK (hR.cg hm a1) (LE.Ra hm n1) k1 o1)))
 |.rangeFunc _ _ _ _,l,T,G,Γ,ρ,s,K,hR,hm,h,hk=>by cases h
 |.scope _,l,T,G,Γ,ρ,s,K,hR,hm,h,hk=>by cases h
 |.label _,l,T,G,Γ,ρ,s,K,hR,hm,h,hk=>by cases h
 |.goto _,l,T,G,Γ,ρ,s,K,hR,hm,h,hk=>by cases h
 |.refuse _,l,T,G,Γ,ρ,s,K,hR,hm,h,hk=>by cases h
end
end Go.Rd
namespace Go.Rd
open Go.aK Go.RowKit Go.Rt
def C9:Nat->List SV->List (Nat×SV)
 |_,[]=>[]
 |i,v::l=>(i,v)::C9 (i+1) l
def Sp.start (sp:Sp):SS:=⟨sp.pre.nx,C9 0 sp.ar,sp.pre.os,sp.pre.ty,sp.pre.gs,sp.pre.fs,sp.pre.bs,sp.pre.pw,sp.pre.ats,sp.pre.dB,sp.pre.ne,sp.pre.fz,sp.pre.sb⟩
def Ro (P:Program)(s:SS):ResultVar->Option SV
 |.tmp t=>yL s.L t
 |.cell a t=>(match yL s.L a with
  |some (.v false [.bZ b o])=>(match jN s.os b with
   |some (_,cs)=>bif ec P t then (bif Nat.ble (o+af P t) cs.length then some (.v true ((cs.drop o).take (af P t)))else none)
    else bif cM P t then (cs[o]?).map sc else none
   |none=>none)
  |_=>none)
def Gm (P:Program)(s:SS):List ResultVar->Option (List SV)
 | []=>some []
 |r::l=>(match Ro P s r,Gm P s l with|some v,some vs=>some (v::vs)|_,_=>none)
def S0:List SV->Option (List (Bool×List SC))
 | []=>some []
 |.v ag cs::l=>(S0 l).map ((ag,cs)::·)
 |_::_=>none
def Lw:List SV->Option SV
 | [v]=>some v
 |vs=>(S0 vs).map .cN
def Lx (vs:List AV):AV:=match vs with| [v]=>v|vs=>.cN vs
def oneOf (Φ:Forms)(base:Nat)(r:SV)(s:SS):List (SV×SS)->Bool
 | []=>false
 |p::l =>
  let σ:Su:=⟨base,uW base p.2 s (mV base [] p.1 r)⟩
  (sub Φ p.2 s σ&&(match sV σ p.1 with|some r'=>r'.same r|none=>false))||oneOf Φ base r s l
def Ly (cf:Cf)(sp:Sp)(r:SV)(s:SS):R:=match r with
 |.v false [.bool be]=>split s be (fun s=>bif oneOf cf.Φ sp.pre.nx (sc (.bool (.k true))) s sp.gD then .ok else .bad 600 s) (fun s=>bif oneOf cf.Φ sp.pre.nx (sc (.bool (.k false))) s sp.gD then .ok else .bad 600 s)
 |_=>.bad 600 s
def Lz (cf:Cf)(sp:Sp)(rs:List ResultVar)(s:SS):R:=match (Gm cf.P s rs).bind Lw with
 |some r=>bif oneOf cf.Φ sp.pre.nx r s sp.gD then .ok else Ly cf sp r s
 |none=>.bad 601 s
def fin (cf:Cf)(sp:Sp)(rs:List ResultVar):Ex->SS->R
 |.gE=>Lz cf sp rs
 |.ret=>Lz cf sp rs
 |.ext _=>.bad 602
section
variable {c:Cx}{T:Tm}{G G':GH}{Γ Γ':dI}{ρ ρ':bm}{s0 s s':SS}{cf:Cf}{rk:Rk}{gu:Gu}{co:Code}
theorem LA {r:ResultVar}{v:SV}(hP:cf.P=c.P)(h:Ro cf.P s r=some v)(hk:Ok c T G Γ ρ s){B:Nat->Prop}{w0:World}{ι:En}{a:Act}{w:World}(hs:dX c.n0 B w0 c.nt T .e (z 0) G ι a w):(jc a.tmps r).run c.P w=.ok (ak ι (v.den ρ)) w:=by
 rw[hP]at h;cases r with
 |tmp t =>
  have:=(hs.1.2 ι (ao.refl _ _)).1.val t;rw[hk.q.at_ _ _ (gH h)]at this;have this:a.tmps.getD t undef=ak ι (v.den ρ):=this;simp[jc,this]
 |cell ad t =>
  unfold Ro at h;simp only at h;split at h
  ·rename_i b o hx;have e:=(hs.1.2 ι (ao.refl _ _)).1.val ad;rw[hk.q.at_ _ _ (gH hx)]at e;have e:a.tmps.getD ad undef=ak ι (.bZ (ρ b).nn o):=e;split at h
   ·rename_i el cs hl;have hG:=hk.loc hl;have kL:(aD ρ cs).length=cs.length:=by simp[aD]
    cases ha:ec c.P t with
    |true =>
     rw[ha]at h;simp only[cond_true]at h;cases hb:Nat.ble (o+af c.P t) cs.length with
     |false=>rw[hb]at h;cases h
     |true =>
      rw[hb]at h;cases h;have hle:=aN hb;obtain⟨d,hd⟩:=qb ha;show _=Result.ok (ak ι (.agg (aD ρ _))) w;rw[ry];have hlen:(((aD ρ cs).drop o).take (af c.P t)).length=af c.P t:=by rw[zag,zas,kL];omega
      simp only[jc,e,ak,Go.asAddr,Sem.run_bind,Sem.run_pure,Result.andThen_ok,loadVar,iN hd,ha,if_true,hX hd];rw[aK.run_loadCells (l:=aq ι (((aD ρ cs).drop o).take (af c.P t))) (by rw[aw,hlen]) fun j' hj'=>?_]
      ·simp
      ·rw[aw]at hj';rw[iF hs hG _ (by rw[kL];omega),bx,zbe (by omega),zbb]
    |false =>
     rw[ha]at h;simp only[cond_false]at h;cases hkn:cM c.P t with
     |false=>rw[hkn]at h;cases h
     |true =>
      rw[hkn]at h;simp only[cond_true]at h;obtain⟨x,hx,rfl⟩:=map_some h;obtain⟨d,hd⟩:=kU hkn;have hlt:o<cs.length:=(List.getElem?_eq_some_iff.1 hx).1;show _=Result.ok (ak ι (x.den ρ)) w;simp only[jc,e,ak,Go.asAddr,Sem.run_bind,Sem.run_pure,Result.andThen_ok,loadVar,iN hd,ha,zaf,if_false];rw[gB (v:=ak ι (x.den ρ)) (by rw[iF hs hG _ (by rw[kL];exact hlt)];simp[aD,hx])]
   ·cases h
  ·cases h
theorem Er (hP:cf.P=c.P)(hk:Ok c T G Γ ρ s){B:Nat->Prop}{w0:World}{ι:En}{a:Act}{w:World}(hs:dX c.n0 B w0 c.nt T .e (z 0) G ι a w):∀{rs:List ResultVar}{vs:List SV},Gm cf.P s rs=some vs->(rs.mapM (jc a.tmps)).run c.P w=.ok (aq ι (vs.map (SV.den ρ))) w
 | [],vs,h=>by cases h;simp[aq]
 |r::l,vs,h=>by
  unfold Gm at h;split at h
  ·rename_i v vs' h1 h2;cases h;rw[zed,Sem.run_bind,LA hP h1 hk hs,Result.andThen_ok,Sem.run_bind,Er hP hk hs h2,Result.andThen_ok];simp[aq]
  ·cases h
theorem Jz:∀{vs:List SV}{l:List (Bool×List SC)},S0 vs=some l->l.map (cj ρ)=vs.map (SV.den ρ)
 | [],l,h=>by cases h;rfl
 |.v ag cs::vs,l,h=>by
  obtain⟨r,h1,rfl⟩:=map_some (show (S0 vs).map ((ag,cs)::·)=some l from h);rw[zal,zal,Jz h1];rfl
 |.cN _::_,_,h=>by cases h
 |.undef::_,_,h=>by cases h
 |.wB _ _ _::_,_,h=>by cases h
 |.slt _ _ _::_,_,h=>by cases h
theorem LB {vs:List SV}{r:SV}(h:Lw vs=some r):r.den ρ=Lx (vs.map (SV.den ρ)):=by
 match vs,h with
 | [],h=>obtain⟨l,h1,rfl⟩:=map_some (show (S0 []).map .cN=some r from h);cases h1;rfl
 | [v],h=>cases h;rfl
 |v::v2::vs,h =>
  obtain⟨l,h1,rfl⟩:=map_some (show (S0 (v::v2::vs)).map .cN=some r from h);show AV.cN (l.map (cj ρ))=_;rw[Jz h1];rfl
theorem oZ (hP:cf.P=c.P)(hk:Ok c T G Γ ρ s){B:Nat->Prop}{w0:World}{ι:En}{a:Act}{w:World}(hs:dX c.n0 B w0 c.nt T .e (z 0) G ι a w){fn:Func}{vs:List SV}{r:SV}(h:Gm cf.P s fn.results.toList=some vs)(hr:Lw vs=some r):(results fn a.tmps).run c.P w=.ok (ak ι (r.den ρ)) w:=by
 have h1:=Er hP hk hs h;rw[LB (ρ:=ρ) hr];show (fn.results.mapM (jc a.tmps) >>= fun vs=>pure (if h:vs.size=1 then vs[0]else .tuple vs)).run c.P w=_;rw[Sem.run_bind,Array.mapM_eq_mapM_toList,Sem.run_map,h1];generalize vs.map (SV.den ρ)=us
 match us with
 | []=>simp[aq,Lx,ak]
 | [v]=>simp[aq,Lx]
 |v::v2::vs=>simp[aq,Lx,ak]
theorem u0 {base:Nat}{r:SV}(hk:Ok c T G Γ ρ s):∀{l:List (SV×SS)},oneOf c.Φ base r s l=true->∃p∈l,∃ρ',dh base ρ ρ'/\Ok c T G Γ ρ' p.2/\p.1.den ρ'=r.den ρ
 | [],h=>by cases h
 |p::l,h=>by
  unfold oneOf at h;simp only[zaq,za]at h;rcases h with ⟨h1,h2⟩|h
  ·have hσ:=(lz (by unfold sub at h1;rw[za]at h1;exact h1.1) hk.sat).1;split at h2
   ·rename_i r' hr';exact⟨p,zac ..,_,Su.cg ⟨base,_⟩ ρ,yE h1 hk,by rw[<-wS hσ hr',SV.bc h2 ρ]⟩
   ·cases h2
  ·obtain⟨q,h1,h2⟩:=u0 hk h;exact⟨q,zaa _ h1,h2⟩
theorem LC {sp:Sp}{r:SV}(hΦ:cf.Φ=c.Φ)(hk:Ok c T G Γ ρ s)(h:(bif oneOf cf.Φ sp.pre.nx r s sp.gD then R.ok else Ly cf sp r s).Ok):∃p∈sp.gD,∃ρ',dh sp.pre.nx ρ ρ'/\Ok c T G Γ ρ' p.2/\p.1.den ρ'=r.den ρ:=by
 cases hone:oneOf cf.Φ sp.pre.nx r s sp.gD with
 |true=>rw[hΦ]at hone;exact u0 hk hone
 |false =>
  rw[hone]at h;have h:(Ly cf sp r s).Ok:=h;unfold Ly at h;split at h
  ·rename_i be _;obtain⟨s2,n1,_,o1,h1⟩:=nF h hk
   have go:∀b:Bool,be.ev ρ=b->(bif oneOf cf.Φ sp.pre.nx (sc (.bool (.k b))) s2 sp.gD then R.ok else .bad 600 s2).Ok->∃p∈sp.gD,∃ρ',dh sp.pre.nx ρ ρ'/\Ok c T G Γ ρ' p.2/\p.1.den ρ'=(SV.v false [.bool be]).den ρ:=fun b hb h=>by
    cases hx:oneOf cf.Φ sp.pre.nx (sc (.bool (.k b))) s2 sp.gD with
    |false=>rw[hx]at h;cases h
    |true =>
     rw[hΦ]at hx;obtain⟨p,m1,ρ',m2,m3,m4⟩:=u0 o1 hx;exact⟨p,m1,ρ',m2,m3,by rw[m4];show AV.bool b=AV.bool (be.ev ρ);rw[hb]⟩
   rcases h1 with ⟨e1,h1⟩|⟨e1,h1⟩
   ·exact go true e1 h1
   ·exact go false e1 h1
  ·cases h
theorem Es:∀{l:List SV}{i k:Nat}{v:AV},lk ((C9 i l).map fun p=>(p.1,p.2.den ρ)) k=some v->i<=k/\(l.map (SV.den ρ))[k-i]?=some v
 | [],i,k,v,h=>by cases h
 |x::l,i,k,v,h=>by
  have h:(bif Nat.beq i k then some (x.den ρ)else lk ((C9 (i+1) l).map fun p=>(p.1,p.2.den ρ)) k)=some v:=h;cases hb:Nat.beq i k with
  |true=>rw[hb]at h;cases h;have:=aj hb;subst this;exact⟨zad _,by simp⟩
  |false =>
   rw[hb]at h;obtain⟨h1,h2⟩:=Es h;refine⟨by omega,?_⟩;rw[show k-i=(k-(i+1))+1 by omega,zal,zbn];exact h2
end
theorem holds_of {P:Program}{Φ:Forms}{cf:Cf}{rk:Rk}{gu:Gu}{sp:Sp}{m:Nat}{fn:Func}{co:Code}(hP:cf.P=P)(hΦ:cf.Φ=Φ)(hnt:cf.nt=fn.ntmps)(hK:dJ cf)(hmix:P.follows .mixedOrders=true)(hf:P.funcs[sp.f]?=some fn)(hb:fn.body=some co)(hn:(fn.name == "runtime.NumGoroutine")=false)(hl:Nat.ble sp.ar.length fn.ntmps=true)
  (h1:rk.str=sp.str) (h2:rk.ms=sp.ms) (h3:sp.ms.lt sp.pre.nx=true) (hex:(ex cf rk gu co 0 sp.start (fin cf sp fn.results.toList)).Ok) (hI:∀sp'∈rk.aH,∀m':Nat,(sp'.str<sp.str∨(sp'.str=sp.str/\m'<m))->j8 P Φ sp' m') (hm0:∀ρ:bm,Sat ρ sp.pre->0<=sp.ms.ev ρ):j8 P Φ sp m:=by
 intro ρ G Γ hin hm B w0 w ι cargs hc hg hca;have hargs:nW (sp.ar.map (SV.den ρ)):=Jb sp.ar ρ;have hl:=aN hl;have hlen:(sp.ar.map (SV.den ρ)).length=sp.ar.length:=by simp
 obtain⟨t',_,hml,ht⟩:=xC (sp.ar.map (SV.den ρ)) 0 Tm.e (fun _=>.ok) (by
  have:∀(as:List AV) (i:Nat) (t:Tm),mK as i t (fun _=>.ok)=.ok:=by
   intro as
   induction as with
   |nil=>intro i t;rfl
   |cons a as ih =>
    intro i t;show (ve i).run t a (fun t=>bo (Nat.succ i) fun i=>mK as i t fun _=>.ok)=.ok;rw[nN,aM];exact ih _ _
  exact this _ _ _)
 refine .inr (.inl ⟨sp.f,cargs,w,by simp only[callFunc,Sem.run_bind,run_program,Result.andThen_ok,hf,hn,hb,Option.isNone_some,zaf,if_false,Sem.run_pure],?_⟩);refine callsIn_wide.1 (callsIn_of_wp_marks (F:=fw none) (n:=0) hf hb trivial ?_);have no:∀{id:Pz} {o:AO} {p:Prop},(Tr.e:Tr AO).get id=some o->p:=fun h=>by rw[Tr.gy]at h;cases h
 have hsat:dX w.heap.size (fun b=>B b∨(b<w.heap.size/\G b=none)) w fn.ntmps t' .e (z 0) G ι { tmps:=cargs++Array.replicate (fn.ntmps-cargs.size) undef,defers:=[] } w:=by
  refine⟨⟨Am _,fun ι' hι=>⟨?_,?_⟩⟩,fun b g hbg=>(hg b g hbg).aU rfl fun hB=>?_,fun id o h=>no h,zad _,fun b hlt hnone=>.inr ⟨hlt,hnone⟩⟩
  ·rw[hca,qw hargs ι ι'];exact zN hml (by rw[hlen];exact hl) ht
  ·refine⟨Kept.refl _ _,fun k hk=>?_,fun id o h=>no h,fun id o h=>no h,fun id id' o o' _ h=>no h,fun id id' f ep es n el c f' ep' tp' es' n' el' c' _ h=>no h⟩;rcases hk with hk|hk
   ·exact hc.room k hk
   ·exact hk.1
  ·rcases hB with hB|hB
   ·exact hB
   ·rw[hbg]at hB;cases hB.2
 have hok:Ok ⟨P,Φ,w.heap.size,fn.ntmps,eV (sp.pre.os.map (SO.den ρ)),A8 ρ sp.pre.gs,G,Γ⟩ t' G Γ ρ sp.start:=by
  refine⟨⟨hin.sat.fs,hin.sat.bs,hin.sat.pw,hin.sat.ats,hin.sat.dB,hin.sat.ne,hin.sat.fz,hin.sat.sb⟩,?_⟩;refine⟨hml,fun k v hk=>?_,fun b x hb=>(hin.ht.b b x hb).told,Rl.refl _ _ _ _ _,oj.refl _ _,fun o ho=>?_,fun o ho b hb=>.inl (il.2 ⟨o,ho,hb⟩),hin.nd,hin.ht,fun f hf=>?_,fun p hp=>?_⟩
  ·obtain⟨_,this⟩:=Es hk;rw[zet]at this;have hlt:k<(sp.ar.map (SV.den ρ)).length:=(List.getElem?_eq_some_iff.1 this).1;rw[ht k,if_pos ⟨zbo _,by omega⟩,zet,this];rfl
  ·obtain⟨o0,m1,rfl⟩:=List.mem_map.1 ho;exact hin.own o0 m1
  ·obtain⟨f0,m1,rfl⟩:=List.mem_map.1 hf;exact hin.ty f0 m1
  ·obtain⟨p0,m1,rfl⟩:=List.mem_map.1 hp;obtain⟨a1,a2,a3⟩:=hin.gs p0 m1;exact⟨a1,a2,fun hw=>⟨.inl (List.mem_map.2 ⟨p0,List.mem_filter.2 ⟨m1,hw⟩,rfl⟩),a3 hw⟩⟩
 have hR:vy ⟨P,Φ,w.heap.size,fn.ntmps,eV (sp.pre.os.map (SO.den ρ)),A8 ρ sp.pre.gs,G,Γ⟩ rk ρ:=fun sp' hsp m' hc=>by
  refine hI sp' hsp m' ?_;rw[h1,h2]at hc;rcases hc with hc|⟨hc,hc2⟩
  ·exact .inl hc
  ·exact .inr ⟨hc,by omega⟩
 have hgo:=oK (gu:=gu) hP hΦ hnt hK hmix hR (by rw[h2];exact h3) hex hok;refine hgo _ w w ι _ hsat _ (fun e tm' hp' nx' G' ι2 a' w' hk hs=>?_);obtain⟨rfl,rfl,Γ',ρ',s',k1,k2,k3,k4⟩:=hk
 have finish:(Lz cf sp fn.results.toList s').Ok->LeavesInM (fw none) 0 P fn a'.tmps (fun e w''=>∃cv,e=.returned cv/\∃v G',(∃Γ' ρ',∃p∈sp.gD,v=p.1.den ρ'/\dh sp.pre.nx ρ ρ'/\Out P Φ (eV (sp.pre.os.map (SO.den ρ))) (A8 ρ sp.pre.gs) G Γ G' Γ' ρ' p.2)/\nf v/\cv=ak ι v/\Core B w0 ι .e w''/\MY B G' w''/\(∀b,(G' b).isSome=true->(G b).isSome=true∨w.heap.size<=b)/\∀b,(G b).isSome=true->(G' b).isSome=true) a'.defers .returning w':=fun hfin=>by
  unfold Lz at hfin;split at hfin
  ·rename_i r hr;cases hrl:Gm cf.P s' fn.results.toList with
   |none=>rw[hrl]at hr;cases hr
   |some vs =>
    rw[hrl]at hr;have hr:Lw vs=some r:=hr;have hall:=LC (sp:=sp) (r:=r) hΦ k4 hfin;obtain⟨p,m1,ρ2,m2,m3,m4⟩:=hall;obtain⟨t0,c0⟩:=hs.1.2 ι2 (ao.refl _ _);rw[t0.defers,k4.q.ml];show ∃cv,(results fn a'.tmps).run P w'=.ok cv w'/\_;have hnf:=uL r ρ';refine⟨ak ι2 (r.den ρ'),oZ hP k4 hs hrl hr,_,rfl,r.den ρ',G',⟨Γ',ρ2,p,m1,m4.symm,k2.trans m2 (zad _),⟨m3.sat,m3.q.rl,m3.q.ht,fun o ho=>m3.q.own _ (List.mem_map.2 ⟨o,ho,rfl⟩),m3.q.nd,fun o ho=>m3.q.new _ (List.mem_map.2 ⟨o,ho,rfl⟩),fun f hf=>m3.q.ty _ (List.mem_map.2 ⟨f,hf,rfl⟩),fun q hq=>m3.q.gs (ig ρ2 q.1,(ρ2 q.2.1).gg,q.2.2) (List.mem_map.2 ⟨q,hq,rfl⟩)⟩⟩,hnf,hnf _ _,?_,fun b g hb'=>(hs.2.1 b g hb').less fun b hb=>.inl hb,fun b hb=>k4.q.grow.new b hb,k4.q.grow.old⟩;have c1:=Ai (kZ (a:=.e) (fun id o h=>no h) c0) ι;exact⟨hc.below.trans (c1.below.mono fun k hk=>.inl hk),fun k hk=>c1.room k (.inl hk),fun id o h=>no h,fun id o h=>no h,fun id id' o o' _ h=>no h,fun id id' f ep es n el c f' ep' tp' es' n' el' c' _ h=>no h⟩
  ·cases hfin
 cases e with
 |gE=>exact finish k1
 |ext id=>cases k1
 |ret=>exact finish k1
theorem cm {P:Program}{Φ:Forms}{aH:List Sp}(h:∀sp∈aH,∀m:Nat,(∀sp'∈aH,∀m':Nat,(sp'.str<sp.str∨(sp'.str=sp.str/\m'<m))->j8 P Φ sp' m')->j8 P Φ sp m):∀sp∈aH,∀m:Nat,j8 P Φ sp m:=by
 have key:∀(n m:Nat) (sp:Sp),sp∈aH->sp.str=n->j8 P Φ sp m:=by
  intro n
  induction n using Nat.strongRecOn with
  |ind n ih =>
   intro m
   induction m using Nat.strongRecOn with
   |ind m ih2 =>
    intro sp hsp hs;refine h sp hsp m fun sp' hsp' m' hc=>?_;rcases hc with hc|⟨hc,hm⟩
    ·exact ih sp'.str (by omega) m' sp' hsp' rfl
    ·exact ih2 m' hm sp' hsp' (by omega)
 exact fun sp hsp m=>key sp.str m sp hsp rfl
end Go.Rd
namespace Go.Rd
open Go.aK Go.RowKit Go.Rt
inductive Sl where|a|o|n (l r:Sl)
def R.dL:Sl->R->Bool
 |.a,r=>r.okB
 |.o,_=>true
 |.n x y,r=>match r with
  |.ok=>true
  |.bad _ _=>false
  |.both a b=>bif R.dL x (a ())then R.dL y (b ())else false
def Sl.mk:Sl->Sl->Sl
 |.a,.a=>.a
 |x,y=>.n x y
def Sl.un:Sl->Sl->Sl
 |.a,_=>.a
 |.o,y=>y
 |.n _ _,.a=>.a
 |.n l r,.o=>.n l r
 |.n l r,.n l2 r2=>Sl.mk (l.un l2) (r.un r2)
theorem JA {x y:Sl}{r:R}(h:R.dL (.n x y) r=true):R.dL (x.mk y) r=true:=by
 cases x<;>cases y<;>first|exact h|(cases r<;>exact h)
theorem Ns {x y:Sl}{a b:Unit->R}(h:R.dL (.n x y) (.both a b)=true):R.dL x (a ())=true/\R.dL y (b ())=true:=by
 have h:(bif R.dL x (a ())then R.dL y (b ())else false)=true:=h;cases ha:R.dL x (a ())with
 |false=>rw[ha]at h;cases h
 |true=>rw[ha]at h;exact⟨rfl,h⟩
theorem aL:∀{x y:Sl}{r:R},R.dL x r=true->R.dL y r=true->R.dL (x.un y) r=true
 |.a,_,_,h,_=>h
 |.o,_,_,_,h=>h
 |.n _ _,.a,_,_,h=>h
 |.n _ _,.o,_,h,_=>h
 |.n _ _,.n _ _,.ok,_,_=>JA rfl
 |.n _ _,.n _ _,.bad _ _,h,_=>by cases h
 |.n l1 l2,.n r1 r2,.both u v,h,h'=>by
  refine JA ?_;obtain⟨h1,h2⟩:=Ns h;obtain⟨h3,h4⟩:=Ns h';show (bif R.dL (l1.un r1) (u ())then R.dL (l2.un r2) (v ())else false)=true;rw[aL h1 h3,aL h2 h4];rfl
theorem ez {x:Sl}{r:R}(h:R.dL x r=true)(hx:x=.a):r.okB=true:=by subst hx;exact h
def al (P:Program)(Φ:Forms)(keys:List (TypeId×KK))(aH:List Sp)(x:Sp)(gu:Gu):R:=match P.funcs[x.f]? with
 |some fn=>(match fn.body with
  |some co=>bif !(fn.name == "runtime.NumGoroutine")&&(Nat.ble x.ar.length fn.ntmps&&(x.ms.lt x.pre.nx&&aX x.pre x.ms))then ex ⟨P,Φ,fn.ntmps,keys⟩ ⟨aH,x.str,x.ms⟩ gu co 0 x.start (fin ⟨P,Φ,fn.ntmps,keys⟩ x fn.results.toList)else .bad 700 x.pre
  |none=>.bad 701 x.pre)
 |none=>.bad 702 x.pre
theorem Gp {P:Program}{Φ:Forms}{keys:List (TypeId×KK)}{aH:List Sp}{x:Sp}{gu:Gu}{m:Nat}(hK:∀p∈keys,lj P p.1 p.2)(hmix:P.follows .mixedOrders=true)(h:(al P Φ keys aH x gu).Ok)(hI:∀sp'∈aH,∀m':Nat,(sp'.str<x.str∨(sp'.str=x.str/\m'<m))->j8 P Φ sp' m'):j8 P Φ x m:=by
 unfold al at h;cases hf:P.funcs[x.f]? with
 |none=>rw[hf]at h;cases h
 |some fn =>
  rw[hf]at h;simp only at h;cases hb:fn.body with
  |none=>rw[hb]at h;cases h
  |some co =>
   rw[hb]at h;simp only at h;cases hc:(!(fn.name == "runtime.NumGoroutine")&&(Nat.ble x.ar.length fn.ntmps&&(x.ms.lt x.pre.nx&&aX x.pre x.ms)))with
   |false=>rw[hc]at h;cases h
   |true =>
    rw[hc]at h;simp only[za,zam]at hc;obtain⟨c1,c2,c3,c4⟩:=hc;exact holds_of (cf:=⟨P,Φ,fn.ntmps,keys⟩) (rk:=⟨aH,x.str,x.ms⟩) rfl rfl rfl hK hmix hf hb c1 c2 rfl rfl c3 h hI fun ρ hs=>av c4 hs
theorem JB {P:Program}{Φ:Forms}{keys:List (TypeId×KK)}{aH:List (Sp×Gu)}{ext:List Sp}(hK:∀p∈keys,lj P p.1 p.2)(hmix:P.follows .mixedOrders=true)(hext:∀sp∈ext,∀m,j8 P Φ sp m)(h:∀e∈aH,(al P Φ keys (aH.map (·.1)++ext) e.1 e.2).Ok):∀sp∈aH.map (·.1)++ext,∀m:Nat,j8 P Φ sp m:=by
 refine cm fun sp hsp m hI=>?_;rcases List.mem_append.1 hsp with hsp|hsp
 ·obtain⟨e,h1,rfl⟩:=List.mem_map.1 hsp;exact Gp hK hmix (h e h1) hI
 ·exact hext sp hsp m
theorem all_nil {α:Type}{p:α->Prop}:∀e∈([]:List α),p e:=fun e h=>by cases h
theorem all_cons {α:Type}{p:α->Prop}{a:α}{l:List α}(h:p a)(hl:∀e∈l,p e):∀e∈a::l,p e:=fun e he=>by
 rcases List.mem_cons.1 he with rfl|he
 ·exact h
 ·exact hl e he
end Go.Rd
