/- Part Xdd of the proof of CollectEnds: no condition. -/
import Derived.Test.YtmabojcaklojhaaGreatXdc
import Derived.Test.YtmabojcaklojhaaGreatXad
set_option linter.unusedSimpArgs false
set_option linter.unusedVariables false
namespace Go.Rd
open Go.aI Go.RowKit Go.Rt
def Dd (cf:Cf)(g x cc':Nat)(s:SS)(K:SS->R):R:=match pB (Gr x) s.os,jd s.gs g with
 |some (.ul _ cc g',osA),some d=>bif Nat.beq g' g&&((cf.Φ.gv cc'&&!cf.Φ.raw cc')&&(Nat.beq (cf.Φ.ty cc) (cf.Φ.ty cc')&&(Rw (cf.Φ.ks cc) (cf.Φ.ks cc')&&(Nat.blt d s.nx&&(bJ s.nx g&&(Nat.blt x s.nx&&osA.all (SO.lt s.nx)))))))then
  fresh s fun d' s'=>fresh (Bi (pC s' g d' false s.os (sy s d d') [] [d'] (mj s.sb d d')) d d' [0,1,2,3,4,5]) fun x' s2=>K (yJ (Jo x x') (jR (aY (dm s2 osA) (.sl x' cc' g)) (.a (.len x')) (.a (.len x))))
  else .bad 250 s
 |_,_=>.bad 251 s
section
variable {c:Cx}{T:Tm}{G G':GH}{Γ Γ':dy}{ρ ρ':aZ}{s s':SS}{cf:Cf}{ops:Array Oper}{i d:Nat}
theorem GB {g x cc':Nat}{K:SS->R}(hΦ:cf.Φ=c.Φ)(h:(Dd cf g x cc' s K).Ok)(hk:Ok c T G Γ ρ s):Ac c T G Γ s ρ K:=by
 unfold Dd at h;rw[hΦ]at h;split at h
 ·rename_i y cc g' osA dd hr hgw;obtain⟨r1,r2⟩:=gj hr;have hy:y=x:=ai r1;subst hy;cases hb:(Nat.beq g' g&&((c.Φ.gv cc'&&!c.Φ.raw cc')&&(Nat.beq (c.Φ.ty cc) (c.Φ.ty cc')&&(Rw (c.Φ.ks cc) (c.Φ.ks cc')&&(Nat.blt dd s.nx&&(bJ s.nx g&&(Nat.blt y s.nx&&osA.all (SO.lt s.nx))))))))with
  |false=>rw[hb]at h;cases h
  |true =>
   rw[hb]at h;simp only[cond_true]at h;simp only[za,zaj]at hb;obtain⟨b1,⟨b2,hrw⟩,b3,b4,b5,b6,b7,b8⟩:=hb;have b1:=ai b1;have b3:=ai b3;subst b1
   have hfz:(ρ dd).gg.fz=false:=by
    obtain⟨_,_,g3⟩:=hk.q.gs (ig ρ g',(ρ dd).gg,true) (List.mem_map.2 ⟨(g',dd,true),fQ hgw,rfl⟩);exact (g3 rfl).2.1
   have hgd:Γ.gd (ig ρ g')=(ρ dd).gg:=(hk.q.gs (ig ρ g',(ρ dd).gg,true) (List.mem_map.2 ⟨(g',dd,true),fQ hgw,rfl⟩)).2.1;obtain⟨u1,u2,u3⟩:=hk.own (r2.mem_iff.2 (by simp:SO.ul y cc g'∈osA++[.ul y cc g']))
   -- the lengths
   obtain⟨F,hF⟩:∃F:Nat->Nat,∀dn:Gd,(ρ dd).gg.Le dn->dn.fz=true->dn.fl=F->((ρ y).vv=.ab/\(ρ y).ns.length=0)∨∃b cap size C,(ρ y).vv=.cN b 0 (ρ y).ns.length cap/\Γ.m b=none/\G b=some (.cells .data (c.Φ.ty cc) size C)/\C.length=(ρ y).ns.length*ae c.P (c.Φ.ty cc)/\cap*ae c.P (c.Φ.ty cc)<=size/\(ρ y).ns.length<=cap /\
     ∀j,j<(ρ y).ns.length->∃fs,ia c.Φ dn (ig ρ g') j (c.Φ.ks cc') ((C.drop (j*ae c.P (c.Φ.ty cc))).take (ae c.P (c.Φ.ty cc))) fs/\iO c.Φ fs<=WU/\∀f∈fs,fF c.P c.Φ G Γ f:=by
    rcases u3 with ⟨v1,v2⟩|⟨b,cap,size,C,v1,v2,v3,v4,v5,v6,v7⟩
    ·exact⟨fun _=>0,fun dn _ _ _=>.inl ⟨v1,v2⟩⟩
    ·have:∀j,∃n:Nat,j<(ρ y).ns.length->∃fs,(∀dn:Gd,(ρ dd).gg.Le dn->dn.fz=true->dn.fl j=n->ia c.Φ dn (ig ρ g') j (c.Φ.ks cc') ((C.drop (j*ae c.P (c.Φ.ty cc))).take (ae c.P (c.Φ.ty cc))) fs)/\iO c.Φ fs<=WU/\∀f∈fs,fF c.P c.Φ G Γ f:=fun j=>by
       by_cases hj:j<(ρ y).ns.length
       ·obtain⟨fs,w1,w2,w3⟩:=v7 j hj;rw[hgd]at w1;obtain⟨n,hn⟩:=Jd b4 w1;exact⟨n,fun _=>⟨fs,hn,w2,w3⟩⟩
       ·exact⟨0,fun h=>absurd h hj⟩
     obtain⟨F,hF⟩:=Classical.axiomOfChoice this
     exact⟨F,fun dn a1 a2 a3=>.inr ⟨b,cap,size,C,v1,v2,v3,v4,v5,v6,fun j hj=>by
      obtain⟨fs,w1,w2,w3⟩:=hF j hj
      exact⟨fs,w1 dn a1 a2 (by rw[a3]),w2,w3⟩⟩⟩
   have hle:(ρ dd).gg.Le ⟨(ρ dd).gg.n,(ρ dd).gg.at_,F,true,(ρ dd).gg.sub,(ρ dd).gg.wn,(ρ dd).gg.ww,(ρ dd).gg.nm,(ρ dd).gg.wm⟩:=⟨fun j=>zad _,fun _ _ _ h=>h,fun h=>(by rw[hfz]at h;cases h),rfl,fun _ _ h=>h,fun _ _ h=>h⟩;obtain⟨ρ1,p1,p2,p3,p4,p5⟩:=rL (dn:=⟨(ρ dd).gg.n,(ρ dd).gg.at_,F,true,(ρ dd).gg.sub,(ρ dd).gg.wn,(ρ dd).gg.ww,(ρ dd).gg.nm,(ρ dd).gg.wm⟩) (w:=false) hgw hle (fun h=>by cases h) rfl rfl b5 b6 h hk;have hdd:=p2 dd (av b5);have ok1:=uS (ks:=[0,1,2,3,4,5]) (dd:=dd) (dn:=s.nx) (p5 [] [s.nx] (fun p hp=>by cases hp) (fun d hd=>by rw[List.mem_singleton.1 hd,p3])) fun k _=>by rw[p3,hdd]
   have hF:=hF _ hle rfl rfl;generalize hdn:(⟨(ρ dd).gg.n,(ρ dd).gg.at_,F,true,(ρ dd).gg.sub,(ρ dd).gg.wn,(ρ dd).gg.ww,(ρ dd).gg.nm,(ρ dd).gg.wm⟩:Gd)=dn at p3 p5 ok1 hF hle;have hlim:(List.replicate (ρ y).ns.length WU).length<=jB:=by rw[zai];exact U.Cv _
   have href:cr (ρ y).vv=true:=U.rr _
   -- the state between,in the old words
   have hso:∀(s0:SS) (l:List Nat),(Bi s0 dd s.nx l).den ρ1=s0.den ρ1:=fun s0 l=>by
    induction l with
    |nil=>rfl
    |cons k l ih=>exact ih
   have J9:(Bi (pC (aC s) g' s.nx false s.os (sy s dd s.nx) [] [s.nx] (mj s.sb dd s.nx)) dd s.nx [0,1,2,3,4,5]).nx=s.nx+1:=by rw[yI];rfl
   obtain⟨gs1,hden1⟩:∃gs1,(Bi (pC (aC s) g' s.nx false s.os (sy s dd s.nx) [] [s.nx] (mj s.sb dd s.nx)) dd s.nx [0,1,2,3,4,5]).den ρ1=⟨(s.den ρ).L,(s.den ρ).os,(s.den ρ).dQ,gs1⟩:=by
    rw[hso];have eD0:=(SS.bG (dB h) p2).1;exact⟨_,St.ext' (by have:=congrArg St.L eD0;exact this) (by have:=congrArg St.os eD0;exact this) (by have:=congrArg St.dQ eD0;exact this) rfl⟩
   generalize Bi (pC (aC s) g' s.nx false s.os (sy s dd s.nx) [] [s.nx] (mj s.sb dd s.nx)) dd s.nx [0,1,2,3,4,5]=s1 at p1 ok1 J9 hden1;obtain⟨q1,q2,q3,q4⟩:=aA p1 ok1 (.v (ρ y).vv (List.replicate (ρ y).ns.length WU));have hs1:=dB p1;rw[J9]at q1 q2 q3 q4;have A:cM s.nx ρ (ρ1.up (s.nx+1) (.v (ρ y).vv (List.replicate (ρ y).ns.length WU))):=p2.trans q2 (zan _);generalize hρ2:ρ1.up (s.nx+1) (.v (ρ y).vv (List.replicate (ρ y).ns.length WU))=ρ2 at q2 q3 q4 A;have hv':(ρ2 (s.nx+1)).vv=(ρ y).vv:=by rw[q4];exact U.jl href
   have hn':(ρ2 (s.nx+1)).ns=List.replicate (ρ y).ns.length WU:=by rw[q4];exact U.iw hlim
   have hy2:=A y (av b7);have eD:=(SS.bG hs1 (ρ:=ρ1) (ρ':=ρ2) (by rw[J9];exact q2)).1;have eO:osA.map (SO.den ρ2)=osA.map (SO.den ρ):=zav fun o ho=>SO.bG A (List.all_eq_true.1 b8 o ho);have hpd:=e7 r2 ρ;rw[zat,zbj]at hpd;have hq1:=ok1.q;rw[hden1]at hq1;have hlt:ig ρ g'<(gr Γ (ig ρ g') dn Γ.ng).ng:=u1;have hgl:dk Γ (gr Γ (ig ρ g') dn Γ.ng):=n7 (fun _=>by rw[hgd];exact hle) (zad _);have hself:∀{b:Nat} {x:Gh},G b=some x->dj G b x=G:=fun h=>Bg h
   -- the list made common
   obtain⟨Γ2,hQ⟩:∃Γ2,Q c T G Γ2 ⟨(s.den ρ).L,osA.map (SO.den ρ),.sl (ρ y).vv cc' (ig ρ g') (List.replicate (ρ y).ns.length WU)::(s.den ρ).dQ,gs1⟩:=by
    rcases hF with ⟨v1,v2⟩|⟨b,cap,size,C,v1,v2,v3,v4,v5,v6,v7⟩
    ·refine⟨gr Γ (ig ρ g') dn Γ.ng,?_⟩;have:=hq1.iq (st':=⟨(s.den ρ).L,osA.map (SO.den ρ),(s.den ρ).dQ,gs1⟩) (fun _ _ h=>h) ⟨_,hpd⟩ (fun f h=>h) (fun p h=>h)
     exact⟨this.ml,this.at_,this.uB,this.rl,this.grow,this.own,this.new,this.nd,this.ht,fun f hf=>by
      rcases List.mem_cons.1 hf with rfl|hf
      ·rw[v2];exact⟨zbl _,.inl ⟨v1,rfl⟩⟩
      ·exact this.ty f hf,this.gs⟩
    ·refine⟨updΓ (gr Γ (ig ρ g') dn Γ.ng) b (.cells cc' (ig ρ g') (List.replicate (ρ y).ns.length WU)),?_⟩
     have:=hq1.UD (osA:=osA.map (SO.den ρ)) (o:=SO.den ρ (.ul y cc g')) (b:=b) (y:=.cells cc' (ig ρ g') (List.replicate (ρ y).ns.length WU)) (g':=.cells .data (c.Φ.ty cc) size C) (tys':=[.sl (ρ y).vv cc' (ig ρ g') (List.replicate (ρ y).ns.length WU)]) hpd (by show qE (ρ y).vv=_;rw[v1];rfl) v2 (fun _ _ _ h=>by rw[v3]at h;cases h) (fun _ _ _ h=>by rw[v3]at h;cases h;exact⟨_,rfl⟩)
      (fun hr hl=>⟨⟨hlt,hrw⟩,fun _ m hm=>zbs hm,size,C,by rw[au,b3],by rw[zai,<-b3];exact v4,fun j m hj=>by
       have hm:=zbs (zba hj);have hjl:=(List.getElem?_eq_some_iff.1 hj).1;rw[zai]at hjl;subst hm;obtain⟨fs,w1,w2,w3⟩:=v7 j hjl;rw[<-b3];refine⟨fs,?_,w2,fun f hf=>((w3 f hf).le (dR.refl _) hgl).le hr hl⟩;show ia c.Φ ((gr Γ (ig ρ g') dn Γ.ng).gd (ig ρ g')) _ _ _ _ _
       rw[eZ];exact w1⟩) (fun f hf=>by
       rw[List.mem_singleton.1 hf]
       exact⟨hlim,.inr (.inr ⟨b,cap,_,size,C,by rw[zai];exact v1,updΓ_same _ _ _,(zcj).symm,by rw[au,b3],by rw[<-b3];exact v5,by rw[zai];exact v6⟩)⟩)
     rw[hself v3]at this;exact this
   refine⟨G,Γ2,ρ2,_,sZ.refl _,q1,A,?_,Ok.yJ (Ok.jR ⟨⟨q3.sat.fs,q3.sat.bs,q3.sat.pw,q3.sat.ats,q3.sat.cU,q3.sat.ne,q3.sat.fz,q3.sat.sb⟩,?_⟩ ?_) (Da ?_)⟩
   ·show s.nx<=s1.nx+1;rw[J9];omega
   ·have e2:(aY (dm (aC s1) osA) (.sl (s.nx+1) cc' g')).den ρ2=⟨(s.den ρ).L,osA.map (SO.den ρ),.sl (ρ y).vv cc' (ig ρ g') (List.replicate (ρ y).ns.length WU)::(s.den ρ).dQ,gs1⟩:=by
      have eD2:=eD.trans hden1;refine St.ext' (by have:=congrArg St.L eD2;exact this) eO ?_ (by have:=congrArg St.gs eD2;exact this);show c6.den ρ2 (.sl (s.nx+1) cc' g')::_=_;rw[show c6.den ρ2 (.sl (s.nx+1) cc' g')=.sl (ρ y).vv cc' (ig ρ g') (List.replicate (ρ y).ns.length WU) by simp only[c6.den];rw[hv',hn',ba A b6]];congr 1;have:=congrArg St.dQ eD2;exact this
    have hg2:=hQ;rw[<-e2]at hg2;exact hg2
   ·rw[LE.aQ,LE.aQ];show (((ρ2 (s.nx+1)).ns.length:Nat):Int)=(((ρ2 y).ns.length:Nat):Int);rw[hn',hy2,zai]
   ·rw[hv',hy2]
 ·cases h
end
end Go.Rd
namespace Go.Rd
open Go.aI Go.RowKit Go.Rt
inductive Sb where
 |vr (y:Nat)|n (e:LE)|z (e:LE)|b (b:BE)|s (x:SC)|v (x:SC)
def yK:List (Nat×Sb)->Nat->Option Sb
 | [],_=>none
 |p::l,k=>bif Nat.beq p.1 k then some p.2 else yK l k
theorem tr:∀{l:List (Nat×Sb)}{k:Nat}{b:Sb},yK l k=some b->(k,b)∈l
 | [],_,_,h=>by cases h
 |p::l,k,b,h=>by
  have h:(bif Nat.beq p.1 k then some p.2 else yK l k)=some b:=h;cases hb:Nat.beq p.1 k with
  |true=>rw[hb]at h;cases h;have:=ai hb;subst this;exact zac ..
  |false=>rw[hb]at h;exact zaa _ (tr h)
structure Su where
 base:Nat
 l:List (Nat×Sb)
def Su.get (σ:Su)(k:Nat):Option Sb:=bif Nat.blt k σ.base then some (.vr k)else yK σ.l k
def UK (ρ:aZ):SC->List Nat|.ref y=>(ρ y).ns|_=>[]
def Sb.u (ρ:aZ):Sb->U
 |.vr y=>ρ y
 |.n e=>.n (e.ev ρ).toNat
 |.z e=>.z (e.ev ρ)
 |.b be=>.b (be.ev ρ)
 |.s x=>(match x.den ρ with|.str l m=>.s l m|_=>.n 0)
 |.v x=>.v (x.den ρ) (UK ρ x)
def Su.up (σ:Su)(ρ:aZ):aZ:=fun k=>match σ.get k with|some b=>b.u ρ|none=>.n 0
def LC:SC->Bool
 |.ref _=>true|.ab=>true|.dY=>true|.bg=>true|.cu _ _=>true|.oB _ _ _ _=>true|.vd _ _=>true|.cV _=>true|.wE _ _=>true
 |_=>false
theorem Jp {x:SC}(h:LC x=true)(ρ:aZ):cr (x.den ρ)=true:=by
 cases x<;>first|(cases h;done)|skip
 ·exact U.rr _
 ·rfl
 ·rfl
 ·rfl
 ·rfl
 ·show cr (pf _ _)=true;unfold pf;split<;>rfl
 ·show cr (mH _ _)=true;unfold mH;split<;>rfl
 ·rfl
 ·rfl
def Sb.fit (ρ:aZ):Sb->Prop
 |.n e=>0<=e.ev ρ
 |.s x=>(iT x).isSome=true
 |.v x=>LC x=true
 |_=>True
def jf (ρ:aZ)(σ:Su):Prop:=∀p∈σ.l,p.2.fit ρ
def Sb.RA (s:SS):Sb->Bool
 |.n e=>bo s e
 |.s x=>(iT x).isSome
 |.v x=>LC x
 |_=>true
theorem Sb.LD {s:SS}{b:Sb}{ρ:aZ}(h:b.RA s=true)(hs:Sat ρ s):b.fit ρ:=by
 cases b with
 |n e=>exact ax h hs
 |s x=>exact h
 |v x=>exact h
 |_=>trivial
theorem Su.fit {σ:Su}{ρ:aZ}(h:jf ρ σ){k:Nat}{b:Sb}(hb:σ.get k=some b):b.fit ρ:=by
 unfold Su.get at hb;cases hc:Nat.blt k σ.base with
 |true=>rw[hc]at hb;cases hb;trivial
 |false=>rw[hc]at hb;exact h _ (tr hb)
theorem Su.dz {σ:Su}{ρ:aZ}{k:Nat}{b:Sb}(hb:σ.get k=some b):σ.up ρ k=b.u ρ:=by unfold Su.up;rw[hb]
theorem map_some {α β:Type}{o:Option α}{f:α->β}{b:β}(h:o.map f=some b):∃a,o=some a/\b=f a:=by
 cases o with
 |none=>cases h
 |some a=>cases h;exact⟨a,rfl,rfl⟩
theorem Eu {a b:Nat}(h:a<b):Nat.blt a b=true:=zbv h
theorem Su.bG (σ:Su)(ρ:aZ):cM σ.base ρ (σ.up ρ):=fun i hi=>by
 have:σ.get i=some (.vr i):=by unfold Su.get;rw[Eu hi];rfl
 rw[Su.dz this];rfl
theorem GC (ρ:aZ)(x:SC):(Sb.u ρ (.v x)).ns=UK ρ x:=by
 show (U.v (x.den ρ) (UK ρ x)).ns=_;refine U.iw ?_;cases x<;>first|exact U.Cv _|exact zbl _
def sA (σ:Su):At->Option LE
 |.n k=>(match σ.get k with|some (.vr y)=>some (.a (.n y))|some (.n e)=>some e|_=>none)
 |.z k=>(match σ.get k with|some (.vr y)=>some (.a (.z y))|some (.z e)=>some e|_=>none)
 |.len k=>(match σ.get k with|some (.vr y)=>some (.a (.len y))|some (.v (.ref y))=>some (.a (.len y))|some (.v .ab)=>some (.k 0)|_=>none)
 |.wt k=>(match σ.get k with|some (.vr y)=>some (.a (.wt y))|some (.v (.ref y))=>some (.a (.wt y))|some (.v .ab)=>some (.k 0)|_=>none)
 |.sl k=>(match σ.get k with|some (.vr y)=>some (.a (.sl y))|some (.s (.str y))=>some (.a (.sl y))|some (.s (.mF l _))=>some (.k l)|_=>none)
 |.gn k b=>(match σ.get k with|some (.vr y)=>some (.a (.gn y b))|_=>none)
section
variable {c:Cx}{T:Tm}{G G':GH}{Γ Γ':dy}{ρ ρ':aZ}{s s':SS}{σ:Su}
theorem RB {a:At}{e:LE}(hσ:jf ρ σ)(h:sA σ a=some e):e.ev ρ=a.ev (σ.up ρ):=by
 cases a with
 |n k =>
  unfold sA at h;simp only at h;split at h
  ·rename_i y hg;cases h;rw[LE.aQ];simp only[At.ev];rw[Su.dz hg];rfl
  ·rename_i e' hg;cases h;have hf:0<=e.ev ρ:=Su.fit hσ hg;simp only[At.ev];rw[Su.dz hg];show _=(((e.ev ρ).toNat:Nat):Int);omega
  ·cases h
 |z k =>
  unfold sA at h;simp only at h;split at h
  ·rename_i y hg;cases h;rw[LE.aQ];simp only[At.ev];rw[Su.dz hg];rfl
  ·rename_i e' hg;cases h;simp only[At.ev];rw[Su.dz hg];rfl
  ·cases h
 |len k =>
  unfold sA at h;simp only at h;split at h
  ·rename_i y hg;cases h;rw[LE.aQ];simp only[At.ev];rw[Su.dz hg];rfl
  ·rename_i y hg;cases h;rw[LE.aQ];simp only[At.ev];rw[Su.dz hg,GC];rfl
  ·rename_i hg;cases h;rw[LE.bz];simp only[At.ev];rw[Su.dz hg,GC];rfl
  ·cases h
 |wt k =>
  unfold sA at h;simp only at h;split at h
  ·rename_i y hg;cases h;rw[LE.aQ];simp only[At.ev];rw[Su.dz hg];rfl
  ·rename_i y hg;cases h;rw[LE.aQ];simp only[At.ev];rw[Su.dz hg,GC];rfl
  ·rename_i hg;cases h;rw[LE.bz];simp only[At.ev];rw[Su.dz hg,GC];rfl
  ·cases h
 |sl k =>
  unfold sA at h;simp only at h;split at h
  ·rename_i y hg;cases h;rw[LE.aQ];simp only[At.ev];rw[Su.dz hg];rfl
  ·rename_i y hg;cases h;rw[LE.aQ];simp only[At.ev];rw[Su.dz hg];exact congrArg (fun n:Nat=>(n:Int)) (U.mB (m:=(ρ y).sm) (U.Cu (ρ y))).symm
  ·rename_i l m hg;cases h;rw[LE.bz];simp only[At.ev];rw[Su.dz hg];exact congrArg (fun n:Nat=>(n:Int)) (U.mB (m:=m) (jC (x:=.mF l m) (ρ:=ρ) (m:=m) (Su.fit hσ hg) rfl)).symm
  ·cases h
 |gn k b =>
  unfold sA at h;simp only at h;split at h
  ·rename_i y hg;cases h;rw[LE.aQ];simp only[At.ev];rw[Su.dz hg];rfl
  ·cases h
def sT (σ:Su):List (Int×At)->Option LE
 | []=>some (.k 0)
 |p::l=>(match sA σ p.2,sT σ l with|some e,some r=>some ((e.nG p.1).add r)|_,_=>none)
theorem Nv (hσ:jf ρ σ):∀{l:List (Int×At)}{e:LE},sT σ l=some e->e.ev ρ=od (σ.up ρ) l
 | [],e,h=>by cases h;rw[LE.bz];rfl
 |p::l,e,h=>by
  unfold sT at h;split at h
  ·rename_i e1 r h1 h2;cases h;rw[LE.ib,LE.iM,RB hσ h1,Nv hσ h2];rfl
  ·cases h
def sE (σ:Su)(e:LE):Option LE:=(sT σ e.ts).map fun r=>r.bk e.c
theorem eH {e e':LE}(hσ:jf ρ σ)(h:sE σ e=some e'):e'.ev ρ=e.ev (σ.up ρ):=by
 unfold sE at h;cases ht:sT σ e.ts with
 |none=>rw[ht]at h;cases h
 |some r=>rw[ht]at h;cases h;rw[LE.aO,Nv hσ ht];unfold LE.ev;omega
def TI (σ:Su):BE->Option BE
 |.k b=>some (.k b)
 |.v k=>(match σ.get k with|some (.vr y)=>some (.v y)|some (.b b)=>some b|_=>none)
 |.nv k=>(match σ.get k with|some (.vr y)=>some (.nv y)|some (.b b)=>some b.not|_=>none)
 |.ge e=>(sE σ e).map .ge
 |.eq e=>(sE σ e).map .eq
 |.ne e=>(sE σ e).map .ne
theorem PI {b b':BE}(hσ:jf ρ σ)(h:TI σ b=some b'):b'.ev ρ=b.ev (σ.up ρ):=by
 have lin:∀{e:LE} {f:LE->BE} {b':BE},(sE σ e).map f=some b'->∃e',b'=f e'/\e'.ev ρ=e.ev (σ.up ρ):=fun {e f b'} h=>by
  cases he:sE σ e with
  |none=>rw[he]at h;cases h
  |some e'=>rw[he]at h;cases h;exact⟨e',rfl,eH hσ he⟩
 cases b with
 |k b=>cases h;rfl
 |v k =>
  unfold TI at h;simp only at h;split at h
  ·rename_i y hg;cases h;simp only[BE.ev];rw[Su.dz hg];rfl
  ·rename_i b hg;cases h;simp only[BE.ev];rw[Su.dz hg];rfl
  ·cases h
 |nv k =>
  unfold TI at h;simp only at h;split at h
  ·rename_i y hg;cases h;simp only[BE.ev];rw[Su.dz hg];rfl
  ·rename_i b hg;cases h;rw[BE.Cz];simp only[BE.ev];rw[Su.dz hg];rfl
  ·cases h
 |ge e=>obtain⟨e',rfl,he⟩:=lin h;simp only[BE.ev,he]
 |eq e=>obtain⟨e',rfl,he⟩:=lin h;simp only[BE.ev,he]
 |ne e=>obtain⟨e',rfl,he⟩:=lin h;simp only[BE.ev,he]
def sY (σ:Su)(k:Nat):Option Nat:=match σ.get k with|some (.vr y)=>some y|_=>none
theorem fx {k y:Nat}(h:sY σ k=some y):σ.up ρ k=ρ y:=by
 unfold sY at h;split at h
 ·rename_i y' hg;cases h;exact Su.dz hg
 ·cases h
def sR (σ:Su)(k:Nat):Option Nat:=match σ.get k with|some (.vr y)=>some y|some (.v (.ref y))=>some y|_=>none
theorem mD {k y:Nat}(h:sR σ k=some y):(σ.up ρ k).vv=(ρ y).vv/\(σ.up ρ k).ns=(ρ y).ns:=by
 unfold sR at h;split at h
 ·rename_i y' hg;cases h;rw[Su.dz hg];exact⟨rfl,rfl⟩
 ·rename_i y' hg;cases h;rw[Su.dz hg,GC];exact⟨U.jl (U.rr _),rfl⟩
 ·cases h
def sC (σ:Su):SC->Option SC
 |.int k e=>(sE σ e).map (.int k)
 |.bool b=>(TI σ b).map .bool
 |.str x=>(match σ.get x with|some (.vr y)=>some (.str y)|some (.s x)=>some x|_=>none)
 |.mF l m=>some (.mF l m)
 |.oz k x=>(sY σ x).map (.oz k)
 |.x9 k b=>some (.x9 k b)
 |.ref x=>(match σ.get x with|some (.vr y)=>some (.ref y)|some (.v x)=>some x|_=>none)
 |.ab=>some .ab|.dY=>some .dY|.bg=>some .bg|.cy=>some .cy
 |.cu b o=>(sY σ b).map fun y=>.cu y o
 |.oB x e sz o=>(match sR σ x,sE σ e with|some y,some e'=>some (.oB y e' sz o)|_,_=>none)
 |.vd x o=>(sR σ x).map fun y=>.vd y o
 |.cV b=>(sY σ b).map .cV
 |.fn f=>some (.fn f)
 |.wE b n=>(sY σ b).map fun y=>.wE y n
theorem uV {x x':SC}(hσ:jf ρ σ)(h:sC σ x=some x'):x'.den ρ=x.den (σ.up ρ):=by
 have mp:∀{α β:Type} {o:Option α} {f:α->β} {b:β},o.map f=some b->∃a,o=some a/\b=f a:=fun {α β o f b} h=>by
  cases o with
  |none=>cases h
  |some a=>cases h;exact⟨a,rfl,rfl⟩
 cases x with
 |int k e=>obtain⟨e',h1,rfl⟩:=mp h;simp only[SC.den,eH hσ h1]
 |bool b=>obtain⟨e',h1,rfl⟩:=mp h;simp only[SC.den,PI hσ h1]
 |str x =>
  unfold sC at h;simp only at h;split at h
  ·rename_i y hg;cases h;simp only[SC.den];rw[Su.dz hg];rfl
  ·rename_i x1 hg;cases h;have hf:(iT x').isSome=true:=Su.fit hσ hg;obtain⟨q,hq⟩:=Option.isSome_iff_exists.1 hf;obtain⟨l,m,e1,_⟩:=eW hq ρ;show x'.den ρ=AV.str (σ.up ρ x).sl (σ.up ρ x).sm;rw[Su.dz hg,e1];show _=AV.str (Sb.u ρ (.s x')).sl (Sb.u ρ (.s x')).sm;unfold Sb.u;simp only[e1];rw[U.mB (jC hf e1)];rfl
  ·cases h
 |mF l m=>cases h;rfl
 |oz k x=>obtain⟨y,h1,rfl⟩:=mp h;simp only[SC.den];rw[fx h1]
 |x9 k b=>cases h;rfl
 |ref x =>
  unfold sC at h;simp only at h;split at h
  ·rename_i y hg;cases h;simp only[SC.den];rw[Su.dz hg];rfl
  ·rename_i x1 hg;cases h;have hf:LC x'=true:=Su.fit hσ hg;show x'.den ρ=(σ.up ρ x).vv;rw[Su.dz hg];exact (U.jl (Jp hf ρ)).symm
  ·cases h
 |ab=>cases h;rfl
 |dY=>cases h;rfl
 |bg=>cases h;rfl
 |cy=>cases h;rfl
 |cu b o=>obtain⟨y,h1,rfl⟩:=mp h;simp only[SC.den];rw[fx h1]
 |oB x e sz o =>
  unfold sC at h;simp only at h;split at h
  ·rename_i y e' h1 h2;cases h;simp only[SC.den];rw[(mD h1).1,eH hσ h2]
  ·cases h
 |vd x o=>obtain⟨y,h1,rfl⟩:=mp h;simp only[SC.den];rw[(mD h1).1]
 |cV b=>obtain⟨y,h1,rfl⟩:=mp h;simp only[SC.den];rw[fx h1]
 |fn f=>cases h;rfl
 |wE b n=>obtain⟨y,h1,rfl⟩:=mp h;simp only[SC.den];rw[fx h1]
def BI (σ:Su):List SC->Option (List SC)
 | []=>some []
 |x::l=>(match sC σ x,BI σ l with|some y,some r=>some (y::r)|_,_=>none)
theorem pD (hσ:jf ρ σ):∀{l l':List SC},BI σ l=some l'->aB ρ l'=aB (σ.up ρ) l
 | [],_,h=>by cases h;rfl
 |x::l,l',h=>by
  unfold BI at h;split at h
  ·rename_i y r h1 h2;cases h;show y.den ρ::aB ρ r=_;rw[uV hσ h1,pD hσ h2];rfl
  ·cases h
def RC (σ:Su):List (Bool×List SC)->Option (List (Bool×List SC))
 | []=>some []
 |p::l=>(match BI σ p.2,RC σ l with|some y,some r=>some ((p.1,y)::r)|_,_=>none)
theorem Jq (hσ:jf ρ σ):∀{l l':List (Bool×List SC)},RC σ l=some l'->l'.map (dS ρ)=l.map (dS (σ.up ρ))
 | [],_,h=>by cases h;rfl
 |p::l,l',h=>by
  unfold RC at h;split at h
  ·rename_i y r h1 h2;cases h;rw[zal,zal,Jq hσ h2];congr 1;unfold dS;rw[pD hσ h1]
  ·cases h
def sV (σ:Su):SV->Option SV
 |.v ag cs=>(BI σ cs).map (.v ag)
 |.dC l=>(RC σ l).map .dC
 |.undef=>some .undef
 |.ve f bs cs=>(BI σ bs).bind fun b=>(BI σ cs).map (.ve f b)
 |.slt _ _ _=>none
 |.yl q=>(sY σ q).map .yl
theorem wW {v v':SV}(hσ:jf ρ σ)(h:sV σ v=some v'):v'.den ρ=v.den (σ.up ρ):=by
 cases v with
 |v ag cs =>
  obtain⟨r,hc,rfl⟩:=map_some (o:=BI σ cs) h;simp only[SV.den,dS];rw[pD hσ hc]
 |dC l =>
  obtain⟨r,hc,rfl⟩:=map_some (o:=RC σ l) h;simp only[SV.den];rw[Jq hσ hc]
 |undef=>cases h;rfl
 |ve f bs cs =>
  have h:((BI σ bs).bind fun b=>(BI σ cs).map (.ve f b))=some v':=h;cases hb:BI σ bs with
  |none=>rw[hb]at h;cases h
  |some b =>
   rw[hb]at h;obtain⟨r,hc,rfl⟩:=map_some (o:=BI σ cs) h;simp only[SV.den];rw[pD hσ hc,pD hσ hb]
 |slt q e sz=>cases h
 |yl q =>
  obtain⟨y,hy,rfl⟩:=map_some (o:=sY σ q) h;simp only[SV.den];rw[fx (ρ:=ρ) hy]
def sI (σ:Su):Nat->Option Nat
 |0=>some 0
 |k+1=>(sY σ k).map (·+1)
theorem ku {g g':Nat}(h:sI σ g=some g'):ig ρ g'=ig (σ.up ρ) g:=by
 cases g with
 |zero=>cases h;rfl
 |succ k =>
  obtain⟨y,hc,rfl⟩:=map_some (o:=sY σ k) h;show (ρ y).nn=_;rw[<-fx (ρ:=ρ) hc];rfl
def QE (σ:Su):c6->Option c6
 |.sl x c g=>(match sR σ x,sI σ g with|some y,some g'=>some (.sl y c g')|_,_=>none)
 |.pt x c g=>(match sR σ x,sI σ g with|some y,some g'=>some (.pt y c g')|_,_=>none)
 |.mp x c g=>(match sR σ x,sI σ g with|some y,some g'=>some (.mp y c g')|_,_=>none)
 |.sj g e v=>(match sI σ g,sE σ e,sC σ v with|some g',some e',some v'=>some (.sj g' e' v')|_,_,_=>none)
 |.el x c e off v=>(match sR σ x,sE σ e,sC σ v with|some y,some e',some v'=>some (.el y c e' off v')|_,_,_=>none)
theorem Jr {f f':c6}(hσ:jf ρ σ)(h:QE σ f=some f'):f'.den ρ=f.den (σ.up ρ):=by
 cases f with
 |el x c e off v =>
  unfold QE at h;simp only at h;split at h
  ·rename_i y e' v' h1 h2 h3;cases h;simp only[c6.den,(mD (ρ:=ρ) h1).1,eH hσ h2,uV hσ h3]
  ·cases h
 |sj g e v =>
  unfold QE at h;simp only at h;split at h
  ·rename_i g' e' v' h1 h2 h3;cases h;simp only[c6.den,ku (ρ:=ρ) h1,eH hσ h2,uV hσ h3]
  ·cases h
 |_ =>
  unfold QE at h;simp only at h;split at h
  ·rename_i y g' h1 h2;cases h;obtain⟨e1,e2⟩:=mD (ρ:=ρ) h1;simp only[c6.den,e1,e2,ku (ρ:=ρ) h2]
  ·cases h
def sQ (σ:Su):Option (SV×Option (Bool×List SC))->Option (Option (SV×Option (Bool×List SC)))
 |none=>some none
 |some (k,none)=>(sV σ k).map fun k'=>some (k',none)
 |some (k,some x)=>(sV σ k).bind fun k'=>(BI σ x.2).map fun y=>some (k',some (x.1,y))
theorem RD {q q':Option (SV×Option (Bool×List SC))}(hσ:jf ρ σ)(h:sQ σ q=some q'):(q'.map fun p=>(p.1.den ρ,p.2.map (dS ρ)))=q.map fun p=>(p.1.den (σ.up ρ),p.2.map (dS (σ.up ρ))):=by
 match q,h with
 |none,h=>cases h;rfl
 |some (k,none),h =>
  obtain⟨k',hk,rfl⟩:=map_some (o:=sV σ k) h;simp only[zbk,zbx];rw[wW hσ hk]
 |some (k,some x),h =>
  have h:((sV σ k).bind fun k'=>(BI σ x.2).map fun y=>some (k',some (x.1,y)))=some q':=h;cases hk:sV σ k with
  |none=>rw[hk]at h;cases h
  |some k' =>
   rw[hk]at h;obtain⟨y,hy,rfl⟩:=map_some (o:=BI σ x.2) h;simp only[zbk];rw[wW hσ hk];unfold dS;simp only;rw[pD hσ hy]
def Vv (σ:Su):Option SC->Option (Option SC)
 |none=>some none
 |some k=>(sC σ k).map some
theorem PJ {q q':Option SC}(hσ:jf ρ σ)(h:Vv σ q=some q'):q'.map (SC.den ρ)=q.map (SC.den (σ.up ρ)):=by
 cases q with
 |none=>cases h;rfl
 |some k =>
  obtain⟨k',hk,rfl⟩:=map_some (o:=sC σ k) h;simp only[zbk];rw[uV hσ hk]
def Bk (σ:Su):SO->Option SO
 |.loc b el cs=>(match sY σ b,BI σ cs with|some y,some r=>some (.loc y el r)|_,_=>none)
 |.iF x c g=>(match sR σ x,sI σ g with|some y,some g'=>some (.iF y c g')|_,_=>none)
 |.ms b x c g f q=>(match sY σ b,sR σ x,sI σ g,sE σ f,Vv σ q with|some y,some x',some g',some f',some q'=>some (.ms y x' c g' f' q')|_,_,_,_,_=>none)
 |.em b pk=>(sY σ b).map fun y=>.em y pk
 |.ul x c g=>(match sR σ x,sI σ g with|some y,some g'=>some (.ul y c g')|_,_=>none)
 |.am b g k=>(match sY σ b,sI σ g with|some y,some g'=>some (.am y g' k)|_,_=>none)
 |.im b e=>(match sY σ b,sE σ e with|some y,some e'=>some (.im y e')|_,_=>none)
 |.bl x m el=>(match sR σ x,sR σ m with|some y,some m'=>some (.bl y m' el)|_,_=>none)
 |.km b c g n=>(match sY σ b,sI σ g,sE σ n with|some y,some g',some n'=>some (.km y c g' n')|_,_,_=>none)
 |.kq b c g n q=>(match sY σ b,sI σ g,sE σ n,sQ σ q with|some y,some g',some n',some q'=>some (.kq y c g' n' q')|_,_,_,_=>none)
 |.rm x c g n=>(match sR σ x,sI σ g,sE σ n with|some y,some g',some n'=>some (.rm y c g' n')|_,_,_=>none)
 |.it b m n r st ty=>(match sY σ b,sC σ m,sE σ n,sE σ r with|some y,some m',some n',some r'=>some (.it y m' n' r' st ty)|_,_,_,_=>none)
theorem De {o o':SO}(hσ:jf ρ σ)(h:Bk σ o=some o'):o'.den ρ=o.den (σ.up ρ):=by
 cases o with
 |loc b el cs =>
  unfold Bk at h;simp only at h;split at h
  ·rename_i y r h1 h2;cases h;simp only[SO.den];rw[<-fx (ρ:=ρ) h1,pD hσ h2]
  ·cases h
 |iF x c g =>
  unfold Bk at h;simp only at h;split at h
  ·rename_i y g' h1 h2;cases h;obtain⟨e1,e2⟩:=mD (ρ:=ρ) h1;simp only[SO.den,e1,e2,ku (ρ:=ρ) h2]
  ·cases h
 |ms b x c g f q =>
  unfold Bk at h;simp only at h;split at h
  ·rename_i y x' g' f' q' h1 h2 h3 h4 h5;cases h;obtain⟨e1,_⟩:=mD (ρ:=ρ) h2;simp only[SO.den,e1,ku (ρ:=ρ) h3,eH hσ h4];rw[<-fx (ρ:=ρ) h1,PJ hσ h5]
  ·cases h
 |em b pk =>
  obtain⟨y,hc,rfl⟩:=map_some (o:=sY σ b) h;simp only[SO.den];rw[<-fx (ρ:=ρ) hc]
 |ul x c g =>
  unfold Bk at h;simp only at h;split at h
  ·rename_i y g' h1 h2;cases h;obtain⟨e1,e2⟩:=mD (ρ:=ρ) h1;simp only[SO.den,e1,e2,ku (ρ:=ρ) h2]
  ·cases h
 |am b g k =>
  unfold Bk at h;simp only at h;split at h
  ·rename_i y g' h1 h2;cases h;simp only[SO.den,ku (ρ:=ρ) h2];rw[<-fx (ρ:=ρ) h1]
  ·cases h
 |im b e =>
  unfold Bk at h;simp only at h;split at h
  ·rename_i y e' h1 h2;cases h;simp only[SO.den,eH hσ h2];rw[<-fx (ρ:=ρ) h1]
  ·cases h
 |km b c g n =>
  unfold Bk at h;simp only at h;split at h
  ·rename_i y g' n' h1 h2 h3;cases h;simp only[SO.den,ku (ρ:=ρ) h2,eH hσ h3];rw[<-fx (ρ:=ρ) h1]
  ·cases h
 |kq b c g n q =>
  unfold Bk at h;simp only at h;split at h
  ·rename_i y g' n' q' h1 h2 h3 h4;cases h;simp only[SO.den,ku (ρ:=ρ) h2,eH hσ h3];rw[<-fx (ρ:=ρ) h1,RD hσ h4]
  ·cases h
 |rm x c g n =>
  unfold Bk at h;simp only at h;split at h
  ·rename_i y g' n' h1 h2 h3;cases h;simp only[SO.den,ku (ρ:=ρ) h2,eH hσ h3];rw[(mD (ρ:=ρ) h1).1]
  ·cases h
 |it b m n r st ty =>
  unfold Bk at h;simp only at h;split at h
  ·rename_i y m' n' r' h1 h2 h3 h4;cases h;simp only[SO.den,uV hσ h2,eH hσ h3,eH hσ h4];rw[<-fx (ρ:=ρ) h1]
  ·cases h
 |bl x m el =>
  unfold Bk at h;simp only at h;split at h
  ·rename_i y m' h1 h2;cases h;obtain⟨e1,_⟩:=mD (ρ:=ρ) h1;obtain⟨_,e2⟩:=mD (ρ:=ρ) h2;simp only[SO.den,e1,e2]
  ·cases h
end
end Go.Rd
namespace Go.Rd
open Go.aI Go.RowKit Go.Rt
def TJ (s:SS):SO->SO->Bool
 |.im b e,.im b' e'=>Nat.beq b b'&&bo s (e.sub e')
 |.km b c g n,.km b' c' g' n'=>Nat.beq b b'&&(Nat.beq c c'&&(Nat.beq g g'&&(bo s (n.sub n')&&bo s (n'.sub n))))
 |.km b c g n,.kq b' c' g' n' _=>Nat.beq b b'&&(Nat.beq c c'&&(Nat.beq g g'&&(bo s (n.sub n')&&bo s (n'.sub n))))
 |.kq b c g n none,.kq b' c' g' n' _=>Nat.beq b b'&&(Nat.beq c c'&&(Nat.beq g g'&&(bo s (n.sub n')&&bo s (n'.sub n))))
 |.rm b c g n,.rm b' c' g' n'=>Nat.beq b b'&&(Nat.beq c c'&&(Nat.beq g g'&&(bo s (n.sub n')&&bo s (n'.sub n))))
 |.it b m n r st ty,.it b' m' n' r' st' ty'=>Nat.beq b b'&&(m.same m'&&(bo s (n.sub n')&&(bo s (n'.sub n)&&(bo s (r.sub r')&&(bo s (r'.sub r)&&((!st||st')&&(!ty||ty')))))))
 |.ms b x c g f none,.ms b' x' c' g' f' _=>Nat.beq b b'&&(Nat.beq x x'&&(Nat.beq c c'&&(Nat.beq g g'&&bo s (f.sub f'))))
 |_,_=>false
theorem Js {ρ:aZ}{s:SS}{o x:SO}(hs:Sat ρ s)(hb:TJ s o x=true):(o.den ρ).aS=(x.den ρ).aS/\∀P Φ G Γ,dO P Φ G Γ (x.den ρ)->dO P Φ G Γ (o.den ρ):=by
 cases o with
 |im b e =>
  cases x<;>first|(cases hb;done)|skip
  rename_i b' e';have hb:(Nat.beq b b'&&bo s (e.sub e'))=true:=hb;rw[za]at hb;have h1:=zab hb.1;subst h1;refine⟨rfl,fun P Φ G Γ ⟨h0,es,h1,h2⟩=>?_⟩;have h3:=ax hb.2 hs;rw[LE.aw]at h3;refine⟨h0,es,h1,fun p hp=>?_⟩;obtain⟨a1,n,a2,a3⟩:=h2 p hp;exact⟨a1,n,a2,by omega⟩
 |km b c g n =>
  have key:∀{b' c' g':Nat} {n':LE},(Nat.beq b b'&&(Nat.beq c c'&&(Nat.beq g g'&&(bo s (n.sub n')&&bo s (n'.sub n)))))=true->b=b'/\c=c'/\g=g'/\n.ev ρ=n'.ev ρ:=fun hb=>by
   simp only[za]at hb;obtain⟨h1,h2,h3,h4,h5⟩:=hb;have e4:=ax h4 hs;have e5:=ax h5 hs;rw[LE.aw]at e4 e5;exact⟨zab h1,zab h2,zab h3,by omega⟩
  cases x<;>first|(cases hb;done)|skip
  ·obtain⟨rfl,rfl,rfl,e⟩:=key hb;exact⟨rfl,fun P Φ G Γ h=>by simp only[SO.den]at h ⊢;rw[e];exact h⟩
  ·obtain⟨rfl,rfl,rfl,e⟩:=key hb
   exact⟨rfl,fun P Φ G Γ h=>by
    simp only[SO.den]at h ⊢;rw[e];obtain⟨h1,h2,h3,es,h4,h5,h6,h7,_⟩:=h
    exact⟨h1,h2,h3,es,h4,h5,h6,h7⟩⟩
 |rm b c g n =>
  cases x<;>first|(cases hb;done)|skip
  rename_i b' c' g' n';have hb:(Nat.beq b b'&&(Nat.beq c c'&&(Nat.beq g g'&&(bo s (n.sub n')&&bo s (n'.sub n)))))=true:=hb;simp only[za]at hb;obtain⟨h1,h2,h3,h4,h5⟩:=hb;have h1:=zab h1;have h2:=zab h2;have h3:=zab h3;subst h1 h2 h3;have e4:=ax h4 hs;have e5:=ax h5 hs;rw[LE.aw]at e4 e5;have e:n.ev ρ=n'.ev ρ:=by omega
  exact⟨rfl,fun P Φ G Γ h=>by simp only[SO.den]at h ⊢;rw[e];exact h⟩
 |kq b c g n q =>
  cases q with
  |some q=>cases x<;>cases hb
  |none =>
   cases x<;>first|(cases hb;done)|skip
   rename_i b' c' g' n' q';have hb:(Nat.beq b b'&&(Nat.beq c c'&&(Nat.beq g g'&&(bo s (n.sub n')&&bo s (n'.sub n)))))=true:=hb;simp only[za]at hb;obtain⟨h1,h2,h3,h4,h5⟩:=hb;have h1:=zab h1;have h2:=zab h2;have h3:=zab h3;subst h1 h2 h3;have e4:=ax h4 hs;have e5:=ax h5 hs;rw[LE.aw]at e4 e5;have e:n.ev ρ=n'.ev ρ:=by omega
   exact⟨rfl,fun P Φ G Γ h=>by
    simp only[SO.den]at h ⊢;rw[e];obtain⟨h1,h2,h3,es,h4,h5,h6,h7,h8,_⟩:=h
    exact⟨h1,h2,h3,es,h4,h5,h6,h7,h8,fun k r hq=>by cases hq⟩⟩
 |it b m n r st ty =>
  cases x<;>first|(cases hb;done)|skip
  rename_i b' m' n' r' st' ty';have hb:(Nat.beq b b'&&(m.same m'&&(bo s (n.sub n')&&(bo s (n'.sub n)&&(bo s (r.sub r')&&(bo s (r'.sub r)&&((!st||st')&&(!ty||ty'))))))))=true:=hb;simp only[za]at hb;obtain⟨h1,h2,h3,h4,h5,h6,h7,h8⟩:=hb;have h1:=zab h1;subst h1;have e3:=ax h3 hs;have e4:=ax h4 hs;have e5:=ax h5 hs;have e6:=ax h6 hs;rw[LE.aw]at e3 e4 e5 e6;have e:n.ev ρ=n'.ev ρ:=by omega
  have e':r.ev ρ=r'.ev ρ:=by omega
  refine⟨rfl,fun P Φ G Γ h=>?_⟩;simp only[SO.den]at h ⊢;rw[SC.aN h2 ρ,e,e'];obtain⟨a1,⟨mo,seen,a2,a3,a4,a5,a6⟩,a7⟩:=h;refine⟨a1,⟨mo,seen,a2,a3,a4,a5,fun zM=>a6 ?_⟩,fun hty=>a7 ?_⟩
  ·rw[zM]at h7;simpa using h7
  ·rw[hty]at h8;simpa using h8
 |ms b xv c g f q =>
  cases q with
  |some q=>cases x<;>cases hb
  |none =>
   cases x<;>first|(cases hb;done)|skip
   rename_i b' x' c' g' f' q';have hb:(Nat.beq b b'&&(Nat.beq xv x'&&(Nat.beq c c'&&(Nat.beq g g'&&bo s (f.sub f')))))=true:=hb;simp only[za]at hb;obtain⟨h1,h2,h3,h4,h5⟩:=hb;have h1:=zab h1;have h2:=zab h2;have h3:=zab h3;have h4:=zab h4;subst h1 h2 h3 h4;have e5:=ax h5 hs;rw[LE.aw]at e5;refine⟨rfl,fun P Φ G Γ h=>?_⟩;simp only[SO.den]at h ⊢;obtain⟨a1,a2,mb,es,es',a3,a4,a5,a6,a7,a8,_⟩:=h;exact⟨a1,a2,mb,es,es',a3,a4,a5,a6,a7,by omega,fun k hq=>by cases hq⟩
 |_=>cases x<;>(cases hb;done)
def uW (s:SS)(o:SO):List SO->Option (List SO)
 | []=>none
 |x::l=>bif o.same x||TJ s o x then some l else (uW s o l).map (x::·)
theorem uX {ρ:aZ}{s:SS}{o:SO}(hs:Sat ρ s):∀{l l':List SO},uW s o l=some l'->∃x,(o.den ρ).aS=(x.den ρ).aS/\(∀P Φ G Γ,dO P Φ G Γ (x.den ρ)->dO P Φ G Γ (o.den ρ))/\l.Perm (l'++[x])
 | [],_,h=>by cases h
 |x::l,l',h=>by
  have h:(bif o.same x||TJ s o x then some l else (uW s o l).map (x::·))=some l':=h;cases hb:(o.same x||TJ s o x)with
  |true =>
   rw[hb]at h;cases h;rw[zar]at hb;rcases hb with hb|hb
   ·have e:=SO.aN hb ρ;exact⟨x,by rw[e],fun P Φ G Γ h=>by rw[e];exact h,(zce _ _).symm⟩
   ·exact⟨x,(Js hs hb).1,(Js hs hb).2,(zce _ _).symm⟩
  |false =>
   rw[hb]at h;obtain⟨r,h1,rfl⟩:=map_some h;obtain⟨y,h2,h3,h4⟩:=uX hs h1;exact⟨y,h2,h3,h4.cons _⟩
def yL (Φ:Forms)(s:SS)(σ:Su):SO->Bool
 |.iF x c _=>(match σ.get x with|some (.v .ab)=>!Φ.gv c|_=>false)
 |.ul x c g=>(match σ.get x,sI σ g with|some (.v .ab),some g'=>pr s g'|_,_=>false)
 |_=>false
def GD (Φ:Forms)(s:SS)(σ:Su):List SO->List SO->Bool
 | [],_=>true
 |o::os,rest=>bif yL Φ s σ o then GD Φ s σ os rest else (match Bk σ o with
  |some o'=>(match uW s o' rest with|some r=>GD Φ s σ os r|none=>false)
  |none=>false)
def kO (σ:Su)(x:Nat):Bool:=match σ.get x with|some (.v .ab)=>true|_=>false
def Ev (s:SS):c6->Bool
 |.el x c e o v=>(match O4 s.ty x c e o with|some w=>v.same w|none=>false)
 |.sj g e v=>(match Nn s.ty g e with|some w=>v.same w|none=>false)
 |_=>false
def RE (s:SS)(σ:Su)(f:c6):Bool:=(match f with|.sl x _ _=>kO σ x|_=>false)||(match QE σ f with|some f'=>wQ s f'||Ev s f'|none=>false)
def RF (s:SS)(σ:Su)(p:Nat×Nat×Bool):Bool:=match sI σ p.1,sY σ p.2.1 with
 |some g',some d'=>s.gs.any fun q=>Nat.beq q.1 g'&&(Nat.beq q.2.1 d'&&(!p.2.2||q.2.2))
 |_,_=>false
def RG (s:SS)(σ:Su)(e:LE):Bool:=match sE σ e with|some e'=>bo s e'|none=>false
def RH (s:SS)(σ:Su)(p:Nat×Bool):Bool:=match σ.get p.1 with
 |some (.vr y)=>(match Nh s.bs y with|some b=>b==p.2|none=>false)
 |some (.b be)=>(match kb s be with|some b=>b==p.2|none=>false)
 |_=>false
def Fu (s:SS)(a b:LE):Bool:=a.same b||(bo s (a.sub b)&&bo s (b.sub a))
def RI (s:SS)(σ:Su)(p:Nat×LE×LE):Bool:=match sE σ p.2.1,sE σ p.2.2 with
 |some j,some w=>bo s j&&(bif kO σ p.1 then Fu s w j else (match sR σ p.1 with
  |some y=>(match yp s y j with|some w2=>Fu s w2 w|none=>false)
  |none=>false))
 |_,_=>false
def RJ (s:SS)(σ:Su)(p:Nat×SC×LE):Bool:=match sY σ p.1,sC σ p.2.1,sE σ p.2.2 with
 |some d,some x,some e=>s.ats.any fun q=>Nat.beq q.1 d&&(q.2.1.same x&&Fu s q.2.2 e)
 |_,_,_=>false
def Nw (s:SS)(σ:Su)(p:Nat×LE×LE):Bool:=match sY σ p.1,sE σ p.2.1,sE σ p.2.2 with
 |some d,some j,some e=>(match yg s.cU d j with|some e2=>Fu s e2 e|none=>false)
 |_,_,_=>false
def RK (s:SS)(σ:Su)(e:LE):Bool:=match sE σ e with|some e'=>Ni s e'||(bo s (e'.bk (-1))||bo s ((LE.k (-1)).sub e'))|none=>false
def RL (s:SS)(σ:Su)(d:Nat):Bool:=match sY σ d with|some y=>s.fz.contains y|none=>false
def RM (s:SS)(σ:Su)(p:Nat×Nat):Bool:=match sY σ p.1,sI σ p.2 with
 |some d,some g=>(match Gf s.sb d with|some g2=>Nat.beq g2 g|none=>false)
 |_,_=>false
def RN (s:SS)(σ:Su)(p:Nat×SV):Bool:=match sV σ p.2,uI s.L p.1 with
 |some v,some w=>v.same w
 |_,_=>false
def Df (s0 s:SS)(σ:Su):Bool :=
 σ.l.all (fun p=>p.2.RA s)&&(s0.fs.all (RG s σ)&&(s0.bs.all (RH s σ)&&(s0.pw.all (RI s σ)&&(s0.ats.all (RJ s σ)&&(s0.cU.all (Nw s σ)&&(s0.ne.all (RK s σ)&&(s0.fz.all (RL s σ)&&s0.sb.all (RM s σ))))))))
def sub (Φ:Forms)(s0 s:SS)(σ:Su):Bool:=Df s0 s σ&&(s0.L.all (RN s σ)&&(GD Φ s σ s0.os s.os&&(s0.ty.all (RE s σ)&&s0.gs.all (RF s σ))))
section
variable {c:Cx}{T:Tm}{G G':GH}{Γ Γ':dy}{ρ ρ':aZ}{s0 s s':SS}{σ:Su}
theorem Jt {f:c6}(h:Ev s f=true)(hk:Ok c T G Γ ρ s):fF c.P c.Φ G Γ (f.den ρ):=by
 cases f with
 |el x cc e o v =>
  unfold Ev at h;simp only at h;split at h
  ·rename_i w hw;obtain⟨e',m1,m2⟩:=mg hw;have:=hk.ty m1;simp only[c6.den]at this ⊢;rw[m2 ρ,<-SC.aN h ρ]at this;exact this
  ·cases h
 |sj g e v =>
  unfold Ev at h;simp only at h;split at h
  ·rename_i w hw;obtain⟨e',m1,m2⟩:=me hw;have:=hk.ty m1;simp only[c6.den]at this ⊢;rw[m2 ρ,<-SC.aN h ρ]at this;exact this
  ·cases h
 |sl x cc g=>cases h
 |pt x cc g=>cases h
 |mp x cc g=>cases h
theorem oT {a b:LE}(h:Fu s a b=true)(hs:Sat ρ s):a.ev ρ=b.ev ρ:=by
 unfold Fu at h;rw[zar,za]at h;rcases h with h|⟨h1,h2⟩
 ·exact LE.aN h ρ
 ·have a1:=ax h1 hs;have a2:=ax h2 hs;rw[LE.aw]at a1 a2;omega
theorem n8 {x:Nat}(h:kO σ x=true):(σ.up ρ x).vv=.ab/\(σ.up ρ x).ns=[]:=by
 unfold kO at h;split at h
 ·rename_i hg;rw[Su.dz hg,GC];exact⟨rfl,rfl⟩
 ·cases h
theorem ly (h:Df s0 s σ=true)(hs:Sat ρ s):jf ρ σ/\Sat (σ.up ρ) s0:=by
 unfold Df at h;simp only[za,zb]at h;obtain⟨h0,h1,h2,h3,h4,h5,h6,h7,h8⟩:=h;have hσ:jf ρ σ:=fun p hp=>Sb.LD (h0 p hp) hs;refine⟨hσ,fun f hf=>?_,fun p hp=>?_,fun p hp=>?_,fun p hp=>?_,fun p hp=>?_,fun e he=>?_,fun d hd=>?_,fun p hp=>?_⟩
 ·have:=h1 f hf;unfold RG at this;split at this
  ·rename_i e' he;rw[<-eH hσ he];exact ax this hs
  ·cases this
 ·have:=h2 p hp;unfold RH at this;split at this
  ·rename_i y hg;split at this
   ·rename_i b hb;rw[beq_iff_eq]at this;rw[Su.dz hg];show (ρ y).bb=_;rw[hs.bs _ (ye hb)];exact this
   ·cases this
  ·rename_i be hg;split at this
   ·rename_i b hb;rw[beq_iff_eq]at this;rw[Su.dz hg];show be.ev ρ=_;rw[Nk hb hs];exact this
   ·cases this
  ·cases this
 ·have:=h3 p hp;unfold RI at this;split at this
  ·rename_i j w hj hw;rw[za]at this;obtain⟨t1,t2⟩:=this;have hpos:=ax t1 hs;rw[<-eH hσ hj,<-eH hσ hw];refine⟨hpos,?_⟩;cases hn:kO σ p.1 with
   |true =>
    rw[hn]at t2;rw[(n8 (ρ:=ρ) hn).2,oT t2 hs];simp
   |false =>
    rw[hn]at t2;simp only[cond_false]at t2;split at t2
    ·rename_i y hy;split at t2
     ·rename_i w2 hw2;rw[(mD (ρ:=ρ) hy).2,yq hw2 hs];exact oT t2 hs
     ·cases t2
    ·cases t2
  ·cases this
 ·have:=h4 p hp;unfold RJ at this;split at this
  ·rename_i d x e hd hx he;obtain⟨q,m1,m2⟩:=List.any_eq_true.1 this;simp only[za]at m2;have hA:=hs.ats _ m1;unfold Kc at hA ⊢;have e3:q.2.2.ev ρ=p.2.2.ev (σ.up ρ):=by rw[oT m2.2.2 hs,eH hσ he]
   have e4:q.2.1.den ρ=p.2.1.den (σ.up ρ):=by rw[SC.aN m2.2.1 ρ,uV hσ hx]
   rw[fx (ρ:=ρ) hd,<-ai m2.1,<-e3,<-e4];exact hA
  ·cases this
 ·have:=h5 p hp;unfold Nw at this;split at this
  ·rename_i d j e hd hj he;split at this
   ·rename_i e2 hl;obtain⟨j',m1,m2⟩:=qG hl;obtain⟨a1,a2,a3⟩:=hs.cU _ m1;have a1:0<=j'.ev ρ:=a1;have a2:(ρ d).gg.fz=true:=a2;have a3:(((ρ d).gg.fl (j'.ev ρ).toNat:Nat):Int)=e2.ev ρ:=a3;have e3:e2.ev ρ=p.2.2.ev (σ.up ρ):=by rw[oT this hs,eH hσ he]
    have e4:j'.ev ρ=p.2.1.ev (σ.up ρ):=by rw[m2 ρ,eH hσ hj]
    rw[fx (ρ:=ρ) hd,<-e3,<-e4];exact⟨a1,a2,a3⟩
   ·cases this
  ·cases this
 ·have:=h6 e he;unfold RK at this;split at this
  ·rename_i e' hh;rw[<-eH hσ hh];rw[zar,zar]at this;rcases this with h|h|h
   ·exact Iz h hs
   ·have:=ax h hs;rw[LE.aO]at this;omega
   ·have:=ax h hs;rw[LE.aw,LE.bz]at this;omega
  ·cases this
 ·have:=h7 d hd;unfold RL at this;split at this
  ·rename_i y hy;rw[fx (ρ:=ρ) hy];exact hs.fz y (List.contains_iff_mem.1 this)
  ·cases this
 ·have:=h8 p hp;unfold RM at this;split at this
  ·rename_i d g hd hg;split at this
   ·rename_i g2 hl;have e:=ai this;subst e;have:=hs.sb _ (yy hl);rw[fx (ρ:=ρ) hd,<-ku (ρ:=ρ) hg];exact this
   ·cases this
  ·cases this
theorem Q.Ju {st:St}{o:Own}{O:List Own}(hq:Q c T G Γ ⟨st.L,O,st.dQ,st.gs⟩)(hb:o.aS=none)(ho:dO c.P c.Φ G Γ o):Q c T G Γ ⟨st.L,O++[o],st.dQ,st.gs⟩:=by
 refine⟨hq.ml,hq.at_,hq.uB,hq.rl,hq.grow,fun x hx=>?_,fun x hx b yz=>?_,?_,hq.ht,hq.ty,hq.gs⟩
 ·rcases List.mem_append.1 hx with hx|hx
  ·exact hq.own x hx
  ·rw[List.mem_singleton.1 hx];exact ho
 ·rcases List.mem_append.1 hx with hx|hx
  ·exact hq.new x hx b yz
  ·rw[List.mem_singleton.1 hx,hb]at yz;cases yz
 ·show (cm (O++[o])).Nodup;rw[fg];have:cm [o]=[]:=by show List.filterMap Own.aS [o]=[];simp[hb]
  rw[this,zbg];exact hq.nd
theorem Ew {o:SO}(h:yL c.Φ s σ o=true)(hσ:jf ρ σ)(hk:Ok c T G Γ ρ s):(o.den (σ.up ρ)).aS=none/\dO c.P c.Φ G Γ (o.den (σ.up ρ)):=by
 cases o<;>first|(cases h;done)|skip
 ·rename_i x cc g;unfold yL at h;simp only at h;split at h
  ·rename_i hg;rw[zaj]at h;have hn:kO σ x=true:=by unfold kO;rw[hg]
   obtain⟨e1,e2⟩:=n8 (ρ:=ρ) hn;simp only[SO.den,e1,e2];exact⟨rfl,h,zbl _,.inl ⟨rfl,rfl⟩⟩
  ·cases h
 ·rename_i x cc g;unfold yL at h;simp only at h;split at h
  ·rename_i g' hg hg';have hn:kO σ x=true:=by unfold kO;rw[hg]
   obtain⟨e1,e2⟩:=n8 (ρ:=ρ) hn;simp only[SO.den,e1,e2];refine⟨rfl,?_,zbl _,.inl ⟨rfl,rfl⟩⟩;rw[<-ku (ρ:=ρ) hg'];exact gJ h hk
  ·cases h
theorem Q.swap {L:List (Nat×AV)}{O1 O2:List Own}{a b:Own}{dQ:List TF}{gs:List (Nat×Gd×Bool)}(hb:b.aS=a.aS)(ho:dO c.P c.Φ G Γ a->dO c.P c.Φ G Γ b)(hq:Q c T G Γ ⟨L,O1++a::O2,dQ,gs⟩):Q c T G Γ ⟨L,O1++b::O2,dQ,gs⟩:=by
 refine⟨hq.ml,hq.at_,hq.uB,hq.rl,hq.grow,fun x hx=>?_,fun x hx b' yz=>?_,?_,hq.ht,hq.ty,hq.gs⟩
 ·rcases List.mem_append.1 hx with hx|hx
  ·exact hq.own x (List.mem_append.2 (.inl hx))
  ·rcases List.mem_cons.1 hx with rfl|hx
   ·exact ho (hq.own a (List.mem_append.2 (.inr (zac ..))))
   ·exact hq.own x (List.mem_append.2 (.inr (zaa _ hx)))
 ·rcases List.mem_append.1 hx with hx|hx
  ·exact hq.new x (List.mem_append.2 (.inl hx)) b' yz
  ·rcases List.mem_cons.1 hx with rfl|hx
   ·exact hq.new a (List.mem_append.2 (.inr (zac ..))) b' (by rw[<-hb];exact yz)
   ·exact hq.new x (List.mem_append.2 (.inr (zaa _ hx))) b' yz
 ·have:=hq.nd;show (cm (O1++b::O2)).Nodup
  have e:cm (O1++b::O2)=cm (O1++a::O2):=by
   unfold cm;rw[zdf,zdf,zdu,zdu,hb]
  rw[e];exact this
theorem yM {st:St}(hσ:jf ρ σ)(hk:Ok c T G Γ ρ s):∀{os rest:List SO}{dn:List Own},GD c.Φ s σ os rest=true->Q c T G Γ ⟨st.L,rest.map (SO.den ρ)++dn,st.dQ,st.gs⟩->Q c T G Γ ⟨st.L,os.map (SO.den (σ.up ρ))++dn,st.dQ,st.gs⟩
 | [],rest,dn,_,hq=>hq.iq (fun _ _ h=>h) ⟨rest.map (SO.den ρ),List.perm_append_comm⟩ (fun f h=>h) (fun p h=>h)
 |o::os,rest,dn,h,hq=>by
  have h:(bif yL c.Φ s σ o then GD c.Φ s σ os rest else (match Bk σ o with
   |some o'=>(match uW s o' rest with|some r=>GD c.Φ s σ os r|none=>false)
   |none=>false))=true:=h
  cases hn:yL c.Φ s σ o with
  |true =>
   rw[hn]at h;obtain⟨n1,n2⟩:=Ew hn hσ hk;have:=yM hσ hk (st:=st) (dn:=dn++[o.den (σ.up ρ)]) h (by rw[<-zbc];exact Q.Ju hq n1 n2);refine this.iq (fun _ _ h=>h) ⟨[],?_⟩ (fun f h=>h) (fun p h=>h);rw[zbg,<-zbc];exact zce _ _
  |false =>
   rw[hn]at h;simp only[cond_false]at h;split at h
   ·rename_i o' ho';split at h
    ·rename_i r hr;obtain⟨x,h1,h1',h2⟩:=uX hk.sat hr;have e:o'.den ρ=o.den (σ.up ρ):=De hσ ho';have hp:=e7 h2 ρ;rw[zat,zbj]at hp
     have:=yM hσ hk (st:=st) (dn:=o'.den ρ::dn) h (Q.swap h1 (h1' _ _ _ _) (hq.iq (fun _ _ h=>h) ⟨[],by
      rw[zbg];have:=hp.append_right dn
      rwa[zbc]at this⟩ (fun f h=>h) (fun p h=>h)))
     refine this.iq (fun _ _ h=>h) ⟨[],?_⟩ (fun f h=>h) (fun p h=>h);rw[zbg,e];exact List.perm_middle
    ·cases h
   ·cases h
theorem Jv:∀{l:List (Nat×AV)}{k:Nat}{v:AV},lk l k=some v->(k,v)∈l
 | [],k,v,h=>by cases h
 |p::l,k,v,h=>by
  have h:(bif Nat.beq p.1 k then some p.2 else lk l k)=some v:=h;cases hb:Nat.beq p.1 k with
  |true=>rw[hb]at h;cases h;have:=ai hb;subst this;exact zac ..
  |false=>rw[hb]at h;exact zaa _ (Jv h)
theorem yN (h:sub c.Φ s0 s σ=true)(hk:Ok c T G Γ ρ s):Ok c T G Γ (σ.up ρ) s0:=by
 unfold sub at h;simp only[za]at h;obtain⟨h1,h2,h3,h4,h5⟩:=h;obtain⟨hσ,hsat⟩:=ly h1 hk.sat;refine⟨hsat,?_⟩;have hq:=yM hσ hk (st:=s.den ρ) (dn:=[]) h3 (by rw[zbg];exact hk.q);rw[zbg]at hq;refine⟨hq.ml,fun k v hv=>?_,hq.uB,hq.rl,hq.grow,hq.own,hq.new,hq.nd,hq.ht,fun f hf=>?_,fun p hp=>?_⟩
 ·obtain⟨p,m1,m2⟩:=List.mem_map.1 (Jv hv);cases m2;have:=List.all_eq_true.1 h2 p m1;unfold RN at this;split at this
  ·rename_i v' w hv' hw;rw[hk.q.at_ _ _ (gD hw),<-SV.aN this ρ,wW hσ hv']
  ·cases this
 ·obtain⟨f0,m1,rfl⟩:=List.mem_map.1 hf;have:=List.all_eq_true.1 h4 f0 m1;unfold RE at this;rw[zar]at this;rcases this with h|h
  ·cases f0 with
   |sl x cc g =>
    obtain⟨e1,e2⟩:=n8 (ρ:=ρ) (show kO σ x=true from h);simp only[c6.den,e1,e2];exact⟨zbl _,.inl ⟨rfl,rfl⟩⟩
   |pt x cc g=>cases h
   |mp x cc g=>cases h
   |el _ _ _ _ _=>cases h
   |sj _ _ _=>cases h
  ·split at h
   ·rename_i f' hf';rw[<-Jr (ρ:=ρ) hσ hf'];rw[zar]at h;rcases h with h|h
    ·exact hk.ty (qI h)
    ·exact Jt h hk
   ·cases h
 ·obtain⟨p0,m1,rfl⟩:=List.mem_map.1 hp;have:=List.all_eq_true.1 h5 p0 m1;unfold RF at this;split at this
  ·rename_i g' d' hg hd;obtain⟨q,q1,q2⟩:=List.any_eq_true.1 this;simp only[za,zar,zaj]at q2;obtain⟨k1,k2,k3⟩:=q2;have k1:=ai k1;have k2:=ai k2;obtain⟨t1,t2,t3⟩:=hk.q.gs (ig ρ q.1,(ρ q.2.1).gg,q.2.2) (List.mem_map.2 ⟨q,q1,rfl⟩);rw[k1,k2]at t1 t2 t3;have e1:=ku (ρ:=ρ) hg;have e2:=fx (ρ:=ρ) hd;refine⟨by rw[<-e1];exact t1,by rw[<-e1,e2];exact t2,fun hw=>?_⟩;have hw:p0.2.2=true:=hw;rcases k3 with k3|k3
   ·rw[hw]at k3;cases k3
   ·have:=t3 k3;rw[<-e1,e2];exact this
  ·cases this
end
end Go.Rd
namespace Go.Rd
open Go.aI Go.RowKit Go.Rt
structure Sp where
 f:Nat
 pre:SS
 ar:List SV
 fR:List (SV×SS)
 str:Nat
 ms:LE
def s7 (ρ:aZ)(gs:List (Nat×Nat×Bool)):List Nat:=(gs.filter fun p=>p.2.2).map fun p=>ig ρ p.1
structure In (P:Program) (Φ:Forms) (G:GH) (Γ:dy) (ρ:aZ) (s:SS):Prop where
 sat:Sat ρ s
 ht:HT P Φ G Γ
 own:∀o∈s.os,dO P Φ G Γ (o.den ρ)
 nd:(cm (s.os.map (SO.den ρ))).Nodup
 ty:∀f∈s.ty,fF P Φ G Γ (f.den ρ)
 gs:∀p∈s.gs,ig ρ p.1<Γ.ng/\Γ.gd (ig ρ p.1)=(ρ p.2.1).gg/\(p.2.2=true->(ρ p.2.1).gg.fz=false/\0<ig ρ p.1)
structure Out (P:Program) (Φ:Forms) (S Sg:List Nat) (G:GH) (Γ:dy) (G':GH) (Γ':dy) (ρ:aZ) (s:SS):Prop where
 sat:Sat ρ s
 rl:Rl Φ S Sg G Γ G' Γ'
 ht:HT P Φ G' Γ'
 own:∀o∈s.os,dO P Φ G' Γ' (o.den ρ)
 nd:(cm (s.os.map (SO.den ρ))).Nodup
 new:∀o∈s.os,∀b,(o.den ρ).aS=some b->b∈S∨G b=none
 ty:∀f∈s.ty,fF P Φ G' Γ' (f.den ρ)
 gs:∀p∈s.gs,ig ρ p.1<Γ'.ng/\Γ'.gd (ig ρ p.1)=(ρ p.2.1).gg/\(p.2.2=true->(ig ρ p.1∈Sg∨Γ.ng<=ig ρ p.1)/\(ρ p.2.1).gg.fz=false/\0<ig ρ p.1)
def kx (P:Program)(Φ:Forms)(sp:Sp)(m:Nat):Prop :=
 ∀(ρ:aZ) (G:GH) (Γ:dy),In P Φ G Γ ρ sp.pre->(sp.ms.ev ρ).toNat=m ->
  aI.Spec P sp.f (sp.ar.map (SV.den ρ)) G fun v G'=>∃Γ' ρ',∃p∈sp.fR,v=p.1.den ρ'/\cM sp.pre.nx ρ ρ'/\Out P Φ (cm (sp.pre.os.map (SO.den ρ))) (s7 ρ sp.pre.gs) G Γ G' Γ' ρ' p.2
def pE (Φ:Forms)(s:SS)(σ:Su):List SO->List SO->Option (List SO)
 | [],rest=>some rest
 |o::os,rest=>bif yL Φ s σ o then pE Φ s σ os rest else (match Bk σ o with
  |some o'=>(match uW s o' rest with|some r=>pE Φ s σ os r|none=>none)
  |none=>none)
section
variable {c:Cx}{T:Tm}{G G':GH}{Γ Γ':dy}{ρ ρ':aZ}{s0 s s':SS}{σ:Su}
theorem rN {st:St}(hσ:jf ρ σ)(hk:Ok c T G Γ ρ s):∀{os rest left:List SO}{dn:List Own},pE c.Φ s σ os rest=some left->Q c T G Γ ⟨st.L,rest.map (SO.den ρ)++dn,st.dQ,st.gs⟩->Q c T G Γ ⟨st.L,left.map (SO.den ρ)++(os.map (SO.den (σ.up ρ))++dn),st.dQ,st.gs⟩
 | [],rest,left,dn,h,hq=>by cases h;exact hq
 |o::os,rest,left,dn,h,hq=>by
  have h:(bif yL c.Φ s σ o then pE c.Φ s σ os rest else (match Bk σ o with
   |some o'=>(match uW s o' rest with|some r=>pE c.Φ s σ os r|none=>none)
   |none=>none))=some left:=h
  cases hn:yL c.Φ s σ o with
  |true =>
   rw[hn]at h;obtain⟨n1,n2⟩:=Ew hn hσ hk;have:=rN hσ hk (st:=st) (dn:=dn++[o.den (σ.up ρ)]) h (by rw[<-zbc];exact Q.Ju hq n1 n2);refine this.iq (fun _ _ h=>h) ⟨[],?_⟩ (fun f h=>h) (fun p h=>h);rw[zbg];refine List.Perm.append_left _ ?_;rw[<-zbc];exact zce _ _
  |false =>
   rw[hn]at h;simp only[cond_false]at h;split at h
   ·rename_i o' ho';split at h
    ·rename_i r hr;obtain⟨x,h1,h1',h2⟩:=uX hk.sat hr;have e:o'.den ρ=o.den (σ.up ρ):=De hσ ho';have hp:=e7 h2 ρ;rw[zat,zbj]at hp
     have:=rN hσ hk (st:=st) (dn:=o'.den ρ::dn) h (Q.swap h1 (h1' _ _ _ _) (hq.iq (fun _ _ h=>h) ⟨[],by
      rw[zbg];have:=hp.append_right dn
      rwa[zbc]at this⟩ (fun f h=>h) (fun p h=>h)))
     refine this.iq (fun _ _ h=>h) ⟨[],?_⟩ (fun f h=>h) (fun p h=>h);rw[zbg,e];exact List.Perm.append_left _ List.perm_middle
    ·cases h
   ·cases h
def cF (σ:Su)(l:List LE):List LE:=l.filterMap (sE σ)
def cB (σ:Su)(l:List (Nat×Bool)):List (Nat×Bool):=l.filterMap fun p=>(sY σ p.1).map fun y=>(y,p.2)
def cP (σ:Su)(l:List (Nat×LE×LE)):List (Nat×LE×LE):=l.filterMap fun p=>match sR σ p.1,sE σ p.2.1,sE σ p.2.2 with|some y,some j,some w=>some (y,j,w)|_,_,_=>none
def cA (σ:Su)(l:List (Nat×SC×LE)):List (Nat×SC×LE):=l.filterMap fun p=>match sY σ p.1,sC σ p.2.1,sE σ p.2.2 with|some y,some x,some e=>some (y,x,e)|_,_,_=>none
def cL (σ:Su)(l:List (Nat×LE×LE)):List (Nat×LE×LE):=l.filterMap fun p=>match sY σ p.1,sE σ p.2.1,sE σ p.2.2 with|some y,some j,some w=>some (y,j,w)|_,_,_=>none
def cZ (σ:Su)(l:List Nat):List Nat:=l.filterMap (sY σ)
def cS (σ:Su)(l:List (Nat×Nat)):List (Nat×Nat):=l.filterMap fun p=>match sY σ p.1,sI σ p.2 with|some y,some g=>some (y,g)|_,_=>none
def cT (σ:Su)(l:List c6):List c6:=l.filterMap (QE σ)
def lz (σ:Su)(ps s:SS)(os:List SO)(gs:List (Nat×Nat×Bool)):SS:=⟨s.nx,s.L,os,cT σ ps.ty++s.ty,gs,cF σ ps.fs++s.fs,cB σ ps.bs++s.bs,cP σ ps.pw++s.pw,cA σ ps.ats++s.ats,cL σ ps.cU++s.cU,cF σ ps.ne++s.ne,cZ σ ps.fz++s.fz,cS σ ps.sb++s.sb⟩
theorem Jw {ps:SS}{os:List SO}{gs:List (Nat×Nat×Bool)}(hσ:jf ρ σ)(hp:Sat (σ.up ρ) ps)(hs:Sat ρ s):Sat ρ (lz σ ps s os gs):=by
 refine⟨fun f hf=>?_,fun p hf=>?_,fun p hf=>?_,fun p hf=>?_,fun p hf=>?_,fun e hf=>?_,fun d hf=>?_,fun p hf=>?_⟩
 ·rcases List.mem_append.1 hf with hf|hf
  ·obtain⟨e,h1,h2⟩:=List.mem_filterMap.1 hf;rw[eH hσ h2];exact hp.fs e h1
  ·exact hs.fs f hf
 ·rcases List.mem_append.1 hf with hf|hf
  ·obtain⟨q,h1,h2⟩:=List.mem_filterMap.1 hf;obtain⟨y,h3,rfl⟩:=map_some h2;have:=hp.bs q h1;rw[fx (ρ:=ρ) h3]at this;exact this
  ·exact hs.bs p hf
 ·rcases List.mem_append.1 hf with hf|hf
  ·obtain⟨q,h1,h2⟩:=List.mem_filterMap.1 hf;split at h2
   ·rename_i y j w a1 a2 a3;cases h2;have:=hp.pw q h1;rw[(mD (ρ:=ρ) a1).2,<-eH hσ a2,<-eH hσ a3]at this;exact this
   ·cases h2
  ·exact hs.pw p hf
 ·rcases List.mem_append.1 hf with hf|hf
  ·obtain⟨q,h1,h2⟩:=List.mem_filterMap.1 hf;split at h2
   ·rename_i y j w a1 a2 a3;cases h2;have:=hp.ats q h1;unfold Kc at this ⊢;rw[fx (ρ:=ρ) a1,<-uV hσ a2,<-eH hσ a3]at this;exact this
   ·cases h2
  ·exact hs.ats p hf
 ·rcases List.mem_append.1 hf with hf|hf
  ·obtain⟨q,h1,h2⟩:=List.mem_filterMap.1 hf;split at h2
   ·rename_i y j w a1 a2 a3;cases h2;have:=hp.cU q h1;rw[fx (ρ:=ρ) a1,<-eH hσ a2,<-eH hσ a3]at this;exact this
   ·cases h2
  ·exact hs.cU p hf
 ·rcases List.mem_append.1 hf with hf|hf
  ·obtain⟨q,h1,h2⟩:=List.mem_filterMap.1 hf;rw[eH hσ h2];exact hp.ne q h1
  ·exact hs.ne e hf
 ·rcases List.mem_append.1 hf with hf|hf
  ·obtain⟨q,h1,h2⟩:=List.mem_filterMap.1 hf;have:=hp.fz q h1;rw[fx (ρ:=ρ) h2]at this;exact this
  ·exact hs.fz d hf
 ·rcases List.mem_append.1 hf with hf|hf
  ·obtain⟨q,h1,h2⟩:=List.mem_filterMap.1 hf;split at h2
   ·rename_i y g a1 a2;cases h2;have:=hp.sb q h1;rw[fx (ρ:=ρ) a1,<-ku (ρ:=ρ) a2]at this;exact this
   ·cases h2
  ·exact hs.sb p hf
def LF (σ:Su):List SO->Option (List SO)
 | []=>some []
 |o::l=>(match Bk σ o,LF σ l with|some o',some r=>some (o'::r)|_,_=>none)
theorem Ey (hσ:jf ρ σ):∀{l l':List SO},LF σ l=some l'->l'.map (SO.den ρ)=l.map (SO.den (σ.up ρ))
 | [],_,h=>by cases h;rfl
 |o::l,l',h=>by
  unfold LF at h;split at h
  ·rename_i o' r h1 h2;cases h;rw[zal,zal,De hσ h1,Ey hσ h2]
  ·cases h
def TK (σ:Su):List (Nat×Nat×Bool)->Option (List (Nat×Nat×Bool))
 | []=>some []
 |p::l=>(match sI σ p.1,sY σ p.2.1,TK σ l with|some g,some d,some r=>some ((g,d,p.2.2)::r)|_,_,_=>none)
theorem Jx:∀{l l':List (Nat×Nat×Bool)},TK σ l=some l'->(l'.map fun p=>(ig ρ p.1,(ρ p.2.1).gg,p.2.2))=l.map fun p=>(ig (σ.up ρ) p.1,(σ.up ρ p.2.1).gg,p.2.2)
 | [],_,h=>by cases h;rfl
 |p::l,l',h=>by
  unfold TK at h;split at h
  ·rename_i g dd r h1 h2 h3;cases h;rw[zal,zal,Jx h3];congr 1;rw[<-ku (ρ:=ρ) h1,fx (ρ:=ρ) h2]
  ·cases h
def Kh:Nat->Nat->Nat->List (Nat×Sb)
 |_,_,0=>[]
 |k,y,n+1=>(k,.vr y)::Kh (k+1) (y+1) n
theorem Ez {a b:List (Nat×Sb)}{k:Nat}:yK (a++b) k=match yK a k with|some x=>some x|none=>yK b k:=by
 induction a with
 |nil=>rfl
 |cons p l ih =>
  show (bif Nat.beq p.1 k then some p.2 else yK (l++b) k)=match (bif Nat.beq p.1 k then some p.2 else yK l k)with|some x=>some x|none=>yK b k
  cases Nat.beq p.1 k with
  |true=>rfl
  |false=>exact ih
theorem EA:∀{n k y j:Nat},yK (Kh k y n) j=if k<=j/\j<k+n then some (.vr (y+(j-k)))else none
 |0,k,y,j=>by
  rw[if_neg (by omega)];rfl
 |n+1,k,y,j=>by
  show (bif Nat.beq k j then some (Sb.vr y)else yK (Kh (k+1) (y+1) n) j)=_;cases hb:Nat.beq k j with
  |true=>have:=ai hb;subst this;rw[if_pos (by omega)];simp
  |false =>
   have hne:k≠j:=fun e=>by subst e;rw[zcf]at hb;cases hb
   rw[cond_false,EA];by_cases h:k<=j/\j<k+(n+1)
   ·rw[if_pos h,if_pos (by omega)];congr 2;omega
   ·rw[if_neg h,if_neg (by omega)]
end
end Go.Rd
namespace Go.Rd
open Go.aI Go.RowKit Go.Rt
def Bm (s:SS)(n:Nat):SS:=⟨s.nx+n,s.L,s.os,s.ty,s.gs,s.fs,s.bs,s.pw,s.ats,s.cU,s.ne,s.fz,s.sb⟩
def Sb.lt (n:Nat):Sb->Bool
 |.vr y=>Nat.blt y n|.n e=>e.lt n|.z e=>e.lt n|.b be=>be.lt n|.s x=>x.lt n|.v x=>x.lt n
def PK (s:SS):SS:=⟨s.nx,[],[],s.ty,s.gs,s.fs,s.bs,s.pw,s.ats,s.cU,s.ne,s.fz,s.sb⟩
def QF (s:SS):List Operand->Option (List SV)
 | []=>some []
 |x::xs=>(match GX s x,QF s xs with|some v,some l=>some (v::l)|_,_=>none)
def rO (σ:Su):List SV->List SV->Bool
 | [],[]=>true
 |a::as,v::vs=>(match sV σ a with|some a'=>a'.same v|none=>false)&&rO σ as vs
 |_,_=>false
def Bn (gs:List (Nat×Nat×Bool)):Bool:=gs.any fun p=>p.2.2
def pF (Φ:Forms)(sp:Sp)(σ:List (Nat×Sb))(vs:List SV)(s:SS):Option (List SO) :=
 bif sub Φ (PK sp.pre) s ⟨0,σ⟩&&(rO ⟨0,σ⟩ sp.ar vs&&(σ.all (fun p=>Nat.blt p.1 sp.pre.nx&&p.2.lt s.nx)&&((List.range sp.pre.nx).all (fun k=>(yK σ k).isSome)&&s.ok)))then
  (match pE Φ s ⟨0,σ⟩ sp.pre.os s.os with
   |some left=>bif (!Bn sp.pre.gs||left.all Lx)&&left.all (fun o=>o.lt s.nx&&o.Na)then some left else none
   |none=>none)
 else none
def ik (sp:Sp)(s:SS):List (Nat×Nat×Bool):=bif Bn sp.pre.gs then mi s else s.gs
def PM:SC->Bool|.int _ _=>true|_=>false
def LG (s:SS)(gs:List (Nat×Nat×Bool)):List (Nat×SC×LE):=s.gs.flatMap fun p=>gs.flatMap fun q=>bif Nat.beq p.1 q.1&&!Nat.beq p.2.1 q.2.1 then (s.ats.filter fun a=>Nat.beq a.1 p.2.1&&(PM a.2.1&&bo s a.2.2)).map fun a=>(q.2.1,a.2)else []
def yO (s:SS)(l:List (Nat×SC×LE)):SS:=⟨s.nx,s.L,s.os,s.ty,s.gs,s.fs,s.bs,s.pw,l++s.ats,s.cU,s.ne,s.fz,s.sb⟩
def Jy (sp:Sp)(σ:List (Nat×Sb))(left:List SO)(d:Option Nat)(s:SS)(K:SS->R)(p:SV×SS):R :=
 let n:=p.2.nx-sp.pre.nx
 let τ:Su:=⟨0,σ++Kh sp.pre.nx s.nx n⟩
 bif p.2.ok&&(Nat.ble sp.pre.nx p.2.nx&&p.1.lt p.2.nx)then
  (match sV τ p.1,LF τ p.2.os,TK τ p.2.gs with
   |some r,some osN,some gsN=>(match d with
    |some d=>K (fZ (yO (lz τ p.2 (Bm s n) (left++osN) (gsN++ik sp s)) (LG s (gsN++ik sp s))) d r)
    |none=>K (yO (lz τ p.2 (Bm s n) (left++osN) (gsN++ik sp s)) (LG s (gsN++ik sp s))))
   |_,_,_=>.bad 300 s)
 else .bad 301 s
def UL (o:Option SV):SV:=match o with|some r=>r|none=>.undef
def Dg:List R->R
 | []=>.ok
 |r::l=>r.and (Dg l)
theorem tu:∀{l:List R},(Dg l).Ok->∀r∈l,r.Ok
 | [],_,r,h=>by cases h
 |x::l,h,r,hr=>by
  obtain⟨h1,h2⟩:=R.gp (show (x.and (Dg l)).Ok from h);rcases List.mem_cons.1 hr with rfl|hr
  ·exact h1
  ·exact tu h2 r hr
section
variable {c:Cx}{T:Tm}{G G':GH}{Γ Γ':dy}{ρ ρ':aZ}{s0 s s':SS}{ops:Array Oper}{i d:Nat}{cf:Cf}
theorem Sb.bG {n:Nat}(h:cM n ρ ρ'){b:Sb}(hb:b.lt n=true):b.u ρ'=b.u ρ:=by
 cases b with
 |vr y=>exact h y (av hb)
 |n e=>simp only[Sb.u];rw[LE.bG h hb]
 |z e=>simp only[Sb.u];rw[LE.bG h hb]
 |b be=>simp only[Sb.u];rw[BE.bG h hb]
 |s x=>simp only[Sb.u];rw[SC.bG h hb]
 |v x =>
  simp only[Sb.u];rw[SC.bG h hb];congr 1;cases x<;>first|rfl|skip
  rename_i y;show (ρ' y).ns=(ρ y).ns;rw[h y (av hb)]
theorem Sb.LH {n:Nat}(h:cM n ρ ρ'){b:Sb}(hb:b.lt n=true)(hf:b.fit ρ):b.fit ρ':=by
 cases b with
 |n e=>show 0<=e.ev ρ';rw[LE.bG h hb];exact hf
 |s x=>exact hf
 |v x=>exact hf
 |_=>trivial
theorem Dh (hq:Q c T G Γ (s.den ρ)):∀{xs:List Operand}{vs:List SV},QF s xs=some vs->F4 c.nt T xs (vs.map (SV.den ρ))
 | [],vs,h=>by cases h;trivial
 |x::xs,vs,h=>by
  unfold QF at h;split at h
  ·rename_i v l h1 h2;cases h;exact⟨pq h1 hq,Dh hq h2⟩
  ·cases h
theorem wX {σ:Su}(hσ:jf ρ σ):∀{as vs:List SV},rO σ as vs=true->vs.map (SV.den ρ)=as.map (SV.den (σ.up ρ))
 | [],[],_=>rfl
 |a::as,v::vs,h=>by
  have h:((match sV σ a with|some a'=>a'.same v|none=>false)&&rO σ as vs)=true:=h;rw[za]at h;obtain⟨h1,h2⟩:=h;split at h1
  ·rename_i a' ha;rw[zal,zal,wX hσ h2,<-SV.aN h1 ρ,wW hσ ha]
  ·cases h1
 | [],_::_,h=>by cases h
 |_::_,[],h=>by cases h
theorem Di (vs:List SV)(ρ:aZ):lC (vs.map (SV.den ρ)):=fun v hv=>by
 obtain⟨x,_,rfl⟩:=List.mem_map.1 hv;exact wK x ρ
theorem Jz {gs:List (Nat×Nat×Bool)}(h:Bn gs=false)(ρ:aZ):s7 ρ gs=[]:=by
 unfold s7
 have:gs.filter (fun p=>p.2.2)=[]:=List.filter_eq_nil_iff.2 fun p hp hw=>by
  have:Bn gs=true:=List.any_eq_true.2 ⟨p,hp,hw⟩;rw[h]at this;cases this
 rw[this];rfl
theorem LI {ρ2:aZ}{s2:SS}{gs:List (Nat×Nat×Bool)}(hk:Ok c T G Γ ρ s)(h2:Ok c T G' Γ' ρ2 s2)(hgs:∀q∈gs,q∈s2.gs)(A:cM s.nx ρ ρ2)(hs:s.ok=true)(hle:dk Γ Γ'):Ok c T G' Γ' ρ2 (yO s2 (LG s gs)):=by
 obtain⟨_,sS⟩:=SS.bG hs A;refine⟨⟨h2.sat.fs,h2.sat.bs,h2.sat.pw,fun p hp=>?_,h2.sat.cU,h2.sat.ne,h2.sat.fz,h2.sat.sb⟩,h2.q⟩;rcases List.mem_append.1 hp with hp|hp
 ·obtain⟨a,m1,hp⟩:=List.mem_flatMap.1 hp;obtain⟨b,m2,hp⟩:=List.mem_flatMap.1 hp;cases hb:(Nat.beq a.1 b.1&&!Nat.beq a.2.1 b.2.1)with
  |false=>rw[hb]at hp;cases hp
  |true =>
   rw[hb]at hp;rw[za]at hb;have eg:=ai hb.1;obtain⟨x,m3,rfl⟩:=List.mem_map.1 (show p∈List.map _ _ from hp);obtain⟨m4,m5⟩:=List.mem_filter.1 m3;simp only[za]at m5;have ed:=ai m5.1;have hpos:=ax m5.2.2 (sS hk.sat);have hat:=(sS hk.sat).ats x m4;have hss:=hs;unfold SS.ok at hss;simp only[za,zb]at hss;have hl:=hss.2.2.2.1 a m1;have g1:Γ.gd (ig ρ a.1)=(ρ a.2.1).gg:=(hk.q.gs (ig ρ a.1,(ρ a.2.1).gg,a.2.2) (List.mem_map.2 ⟨a,m1,rfl⟩)).2.1;have g0:ig ρ a.1<Γ.ng:=(hk.q.gs (ig ρ a.1,(ρ a.2.1).gg,a.2.2) (List.mem_map.2 ⟨a,m1,rfl⟩)).1;have g2:Γ'.gd (ig ρ2 b.1)=(ρ2 b.2.1).gg:=(h2.q.gs (ig ρ2 b.1,(ρ2 b.2.1).gg,b.2.2) (List.mem_map.2 ⟨b,hgs b m2,rfl⟩)).2.1;have e1:ig ρ2 b.1=ig ρ a.1:=by rw[<-eg];exact ba A hl.1
   have e2:(ρ2 a.2.1)=ρ a.2.1:=A _ (av hl.2)
   have hLe:(ρ2 a.2.1).gg.Le (ρ2 b.2.1).gg:=by
    rw[e2,<-g1,<-g2,e1];exact hle.gd _ g0
   unfold Kc at hat ⊢;rw[ed]at hat;rcases hat with ⟨q1,q2⟩|⟨q1,_⟩
   ·exact .inl ⟨q1,C5 hLe q2⟩
   ·omega
 ·exact h2.sat.ats p hp
theorem GF {sp:Sp}{σ:List (Nat×Sb)}{vs:List SV}{left:List SO}{d:Option Nat}{K:SS->R}(hk:Ok c T G Γ ρ s)(hc:pF c.Φ sp σ vs s=some left)(hp:(Dg (sp.fR.map (Jy sp σ left d s K))).Ok) :
  In c.P c.Φ G Γ ((⟨0,σ⟩:Su).up ρ) sp.pre/\vs.map (SV.den ρ)=sp.ar.map (SV.den ((⟨0,σ⟩:Su).up ρ)) /\
  ∀(G':GH) (Γ':dy) (ρ':aZ) (p:SV×SS),p∈sp.fR->cM sp.pre.nx ((⟨0,σ⟩:Su).up ρ) ρ'->ju c.n0 G G'->Out c.P c.Φ (cm (sp.pre.os.map (SO.den ((⟨0,σ⟩:Su).up ρ)))) (s7 ((⟨0,σ⟩:Su).up ρ) sp.pre.gs) G Γ G' Γ' ρ' p.2 ->
   ∃ρ2 s2,(K (match d with|some d=>fZ s2 d (UL (sV (⟨0,σ++Kh sp.pre.nx s.nx (p.2.nx-sp.pre.nx)⟩:Su) p.1))|none=>s2)).Ok/\cM s.nx ρ ρ2/\s.nx<=s2.nx/\Ok c T G' Γ' ρ2 s2/\(UL (sV (⟨0,σ++Kh sp.pre.nx s.nx (p.2.nx-sp.pre.nx)⟩:Su) p.1)).den ρ2=p.1.den ρ':=by
 unfold pF at hc;cases hb:(sub c.Φ (PK sp.pre) s ⟨0,σ⟩&&(rO ⟨0,σ⟩ sp.ar vs&&(σ.all (fun p=>Nat.blt p.1 sp.pre.nx&&p.2.lt s.nx)&&((List.range sp.pre.nx).all (fun k=>(yK σ k).isSome)&&s.ok))))with
 |false=>rw[hb]at hc;cases hc
 |true =>
  rw[hb]at hc;simp only[cond_true]at hc;simp only[za]at hb;obtain⟨b1,b2,b3,b4,b5⟩:=hb;have hpre:=yN b1 hk
  have hσ:jf ρ ⟨0,σ⟩:=by
   unfold sub at b1;rw[za]at b1;exact (ly b1.1 hk.sat).1
  cases hs:pE c.Φ s ⟨0,σ⟩ sp.pre.os s.os with
  |none=>rw[hs]at hc;cases hc
  |some lf =>
   rw[hs]at hc;simp only at hc;cases hb2:((!Bn sp.pre.gs||lf.all Lx)&&lf.all (fun o=>o.lt s.nx&&o.Na))with
   |false=>rw[hb2]at hc;cases hc
   |true =>
    rw[hb2]at hc;cases hc;rw[za]at hb2;have hsp:=rN hσ hk (st:=s.den ρ) (dn:=[]) hs (by rw[zbg];exact hk.q);rw[zbg]at hsp;generalize hρσ:(⟨0,σ⟩:Su).up ρ=ρσ at *;have hnd:=hsp.nd;have hnd:(cm (left.map (SO.den ρ)++sp.pre.os.map (SO.den ρσ))).Nodup:=hnd;rw[fg,List.nodup_append]at hnd;have hgsP:∀p∈sp.pre.gs,ig ρσ p.1<Γ.ng/\Γ.gd (ig ρσ p.1)=(ρσ p.2.1).gg/\(p.2.2=true->(ig ρσ p.1∈c.Sg∨c.Γ0.ng<=ig ρσ p.1)/\(ρσ p.2.1).gg.fz=false/\0<ig ρσ p.1):=fun p hp=>hpre.q.gs (ig ρσ p.1,(ρσ p.2.1).gg,p.2.2) (List.mem_map.2 ⟨p,hp,rfl⟩);refine⟨⟨⟨hpre.sat.fs,hpre.sat.bs,hpre.sat.pw,hpre.sat.ats,hpre.sat.cU,hpre.sat.ne,hpre.sat.fz,hpre.sat.sb⟩,hk.q.ht,fun o ho=>hsp.own _ (zbt _ (List.mem_map.2 ⟨o,ho,rfl⟩)),hnd.2.1,fun f hf=>hpre.q.ty _ (List.mem_map.2 ⟨f,hf,rfl⟩),fun p hp=>?_⟩,by rw[<-hρσ];exact wX hσ b2,fun G' Γ' ρ' p hpp ha hgr ho=>?_⟩
    ·obtain⟨q1,q2,q3⟩:=hgsP p hp;exact⟨q1,q2,fun hw=>(q3 hw).2⟩
    ·have hpc:=tu hp _ (List.mem_map.2 ⟨p,hpp,rfl⟩);unfold Jy at hpc;simp only at hpc;cases hb3:(p.2.ok&&(Nat.ble sp.pre.nx p.2.nx&&p.1.lt p.2.nx))with
     |false=>rw[hb3]at hpc;cases hpc
     |true =>
      rw[hb3]at hpc;simp only[cond_true]at hpc;simp only[za]at hb3;obtain⟨d1,d2,d3⟩:=hb3;have d2:=aK d2;generalize hτ:(⟨0,σ++Kh sp.pre.nx s.nx (p.2.nx-sp.pre.nx)⟩:Su)=τ at *
      -- the new values
      obtain⟨ρ2,hρ2⟩:∃ρ2:aZ,∀k,ρ2 k=if k<s.nx then ρ k else ρ' (sp.pre.nx+(k-s.nx)):=⟨_,fun _=>rfl⟩
      have A:cM s.nx ρ ρ2:=fun k hk=>by rw[hρ2,if_pos hk]
      have hσlt:∀p∈σ,p.1<sp.pre.nx/\p.2.lt s.nx=true:=fun p hp=>by
       have:=List.all_eq_true.1 b3 p hp;rw[za]at this;exact⟨av this.1,this.2⟩
      have hget:∀k,τ.get k=yK (σ++Kh sp.pre.nx s.nx (p.2.nx-sp.pre.nx)) k:=fun k=>by rw[<-hτ];rfl
      have hτok:jf ρ2 τ:=fun q hq=>by
       rw[<-hτ]at hq;rcases List.mem_append.1 hq with hq|hq
       ·exact Sb.LH A (hσlt q hq).2 (hσ q hq)
       ·have:∀(n k y:Nat),∀q∈Kh k y n,q.2.fit ρ2:=fun n=>by
          induction n with
          |zero=>intro k y q h;cases h
          |succ n ih =>
           intro k y q h;rcases List.mem_cons.1 h with rfl|h
           ·trivial
           ·exact ih _ _ q h
        exact this _ _ _ q hq
      have AU:cM p.2.nx ρ' (τ.up ρ2):=fun k hkl=>by
       by_cases hkp:k<sp.pre.nx
       ·have hs2:=List.all_eq_true.1 b4 k (List.mem_range.2 hkp);obtain⟨b,hbk⟩:=Option.isSome_iff_exists.1 hs2;have hg:τ.get k=some b:=by rw[hget,Ez,hbk]
        rw[Su.dz hg,Sb.bG A (hσlt _ (tr hbk)).2]
        have:ρσ k=b.u ρ:=by
         rw[<-hρσ];exact Su.dz (show (⟨0,σ⟩:Su).get k=some b from hbk)
        rw[<-this];exact (ha k hkp).symm
       ·have hn:yK σ k=none:=by
          cases hc:yK σ k with
          |none=>rfl
          |some b=>have:=(hσlt _ (tr hc)).1;exact absurd this (by show ¬k<_;omega)
        have hg:τ.get k=some (.vr (s.nx+(k-sp.pre.nx))):=by rw[hget,Ez,hn,EA,if_pos (by omega)]
        rw[Su.dz hg];show ρ2 _=_;rw[hρ2,if_neg (by omega)];congr 1;omega
      obtain⟨eP,sP⟩:=SS.bG d1 AU;obtain⟨eS,sS⟩:=SS.bG b5 A;have hsatP:=sP ho.sat;split at hpc
      ·rename_i r osN gsN hr hos hgs;have hgsN:=Jx (ρ:=ρ2) hgs;have hosN:=Ey hτok hos
       have hgA:∀q∈(ik sp s).map (fun p=>(ig ρ p.1,(ρ p.2.1).gg,p.2.2)),q∈(s.den ρ).gs/\Γ'.gd q.1=Γ.gd q.1:=fun q hq=>by
        obtain⟨q0,m1,rfl⟩:=List.mem_map.1 hq;unfold ik at m1;cases hw:Bn sp.pre.gs with
        |false =>
         rw[hw]at m1;have hm:(ig ρ q0.1,(ρ q0.2.1).gg,q0.2.2)∈(s.den ρ).gs:=List.mem_map.2 ⟨q0,m1,rfl⟩;refine⟨hm,ho.rl.gs _ (hk.q.gs _ hm).1 ?_⟩;rw[Jz hw];exact fun h=>by cases h
        |true =>
         rw[hw]at m1;have m2:=(List.mem_filter.1 m1).1;have hm:(ig ρ q0.1,(ρ q0.2.1).gg,q0.2.2)∈(s.den ρ).gs:=List.mem_map.2 ⟨q0,m2,rfl⟩;refine⟨hm,ho.rl.gs _ (hk.q.gs _ hm).1 fun hin=>?_⟩;obtain⟨p0,h1,h2⟩:=List.mem_map.1 hin;obtain⟨h3,h4⟩:=List.mem_filter.1 h1;obtain⟨_,g2,g3⟩:=hgsP p0 h3;have:=(rK (g:=ig ρσ p0.1) hk m1 (by rw[g2];exact (g3 h4).2.1)).2;exact this h2.symm
       have hQ:=hsp.call (osA:=left.map (SO.den ρ)) (osB:=sp.pre.os.map (SO.den ρσ)) (os':=p.2.os.map (SO.den ρ')) (tys':=p.2.ty.map (c6.den ρ')) (gsA:=(ik sp s).map fun p=>(ig ρ p.1,(ρ p.2.1).gg,p.2.2)) (gs':=p.2.gs.map fun p=>(ig ρ' p.1,(ρ' p.2.1).gg,p.2.2)) (Sg:=s7 ρσ sp.pre.gs) (List.Perm.refl _) ho.rl hgr ho.ht
        (fun o h=>by obtain⟨o0,m1,rfl⟩:=List.mem_map.1 h;exact ho.own o0 m1) ho.nd (fun o h b hb=>by obtain⟨o0,m1,rfl⟩:=List.mem_map.1 h;exact ho.new o0 m1 b hb) (fun f h=>by obtain⟨f0,m1,rfl⟩:=List.mem_map.1 h;exact ho.ty f0 m1)
        (fun g hg=>by
         obtain⟨p0,h1,rfl⟩:=List.mem_map.1 hg;obtain⟨h3,h4⟩:=List.mem_filter.1 h1;exact ((hgsP p0 h3).2.2 h4).1) hgA (fun q hq=>by
         obtain⟨q0,m1,rfl⟩:=List.mem_map.1 hq;obtain⟨a1,a2,a3⟩:=ho.gs q0 m1;refine⟨a1,a2,fun hw=>?_⟩;obtain⟨a4,a5⟩:=a3 hw;refine⟨?_,a5⟩;rcases a4 with a4|a4
         ·obtain⟨p0,h1,h2⟩:=List.mem_map.1 a4;obtain⟨h3,h4⟩:=List.mem_filter.1 h1;have:=((hgsP p0 h3).2.2 h4).1;rw[h2]at this;exact this
         ·exact .inr (zam hk.q.rl.le.ng a4)) (fun o h g hg=>by
         obtain⟨o0,m1,rfl⟩:=List.mem_map.1 h
         have hlt:g<Γ.ng:=by
          have hoo:=hsp.own _ (zbo _ (List.mem_map.2 ⟨o0,m1,rfl⟩));cases o0<;>first|(cases hg;done)|skip
          cases hg;exact hoo.2.1
         refine ho.rl.gs g hlt fun hin=>?_;cases hw:Bn sp.pre.gs with
         |false=>rw[Jz hw]at hin;cases hin
         |true =>
          have:=hb2.1;rw[hw]at this;simp only[zcz,zcp]at this;have:=List.all_eq_true.1 this o0 m1;cases o0<;>first|(cases hg;done)|skip
          cases this) (fun o h hp=>by
         obtain⟨o0,m1,rfl⟩:=List.mem_map.1 h;rw[SO.Is ((za _ _).mp (List.all_eq_true.1 hb2.2 o0 m1)).2 ρ]at hp
         cases hp)
       have eL:left.map (SO.den ρ2)=left.map (SO.den ρ):=zav fun o ho'=>SO.bG A ((za _ _).mp (List.all_eq_true.1 hb2.2 o ho')).1;refine⟨ρ2,yO (lz τ p.2 (Bm s (p.2.nx-sp.pre.nx)) (left++osN) (gsN++ik sp s)) (LG s (gsN++ik sp s)),?_,A,by show s.nx<=s.nx+_;omega,LI (s2:=lz τ p.2 (Bm s (p.2.nx-sp.pre.nx)) (left++osN) (gsN++ik sp s)) hk ⟨Jw hτok hsatP ⟨(sS hk.sat).fs,(sS hk.sat).bs,(sS hk.sat).pw,(sS hk.sat).ats,(sS hk.sat).cU,(sS hk.sat).ne,(sS hk.sat).fz,(sS hk.sat).sb⟩,?_⟩ (fun q h=>h) A b5 ho.rl.le,?_⟩
       ·rw[hr];cases d<;>exact hpc
       ·have hss:=b5;unfold SS.ok at hss;simp only[za,zb]at hss
        have eQ:(lz τ p.2 (Bm s (p.2.nx-sp.pre.nx)) (left++osN) (gsN++ik sp s)).den ρ2=⟨(s.den ρ).L,left.map (SO.den ρ)++p.2.os.map (SO.den ρ'),(cT τ p.2.ty).map (c6.den ρ2)++(s.den ρ).dQ,(p.2.gs.map fun p=>(ig ρ' p.1,(ρ' p.2.1).gg,p.2.2))++(ik sp s).map fun p=>(ig ρ p.1,(ρ p.2.1).gg,p.2.2)⟩:=by
         refine St.ext' (by have:=congrArg St.L eS;exact this) ?_ ?_ ?_
         ·show (left++osN).map (SO.den ρ2)=_;rw[zat,eL,hosN];congr 1;have:=congrArg St.os eP;exact this
         ·show (cT τ p.2.ty++s.ty).map (c6.den ρ2)=_;rw[zat];congr 1;have:=congrArg St.dQ eS;exact this
         ·show (gsN++ik sp s).map (fun p=>(ig ρ2 p.1,(ρ2 p.2.1).gg,p.2.2))=_;rw[zat,hgsN];congr 1
          ·have:=congrArg St.gs eP;exact this
          ·refine zav fun q hq=>?_
           have hqs:q∈s.gs:=by
            unfold ik at hq;cases hw:Bn sp.pre.gs with
            |false=>rw[hw]at hq;exact hq
            |true=>rw[hw]at hq;exact (List.mem_filter.1 hq).1
           have:=hss.2.2.2.1 q hqs;rw[ba A this.1,A _ (av this.2)]
        rw[eQ];refine hQ.iq (fun _ _ h=>h) ⟨[],by rw[zbg]⟩ (fun f hf=>?_) (fun p h=>h);rcases List.mem_append.1 hf with hf|hf
        ·obtain⟨f1,m1,rfl⟩:=List.mem_map.1 hf;obtain⟨f0,m2,m3⟩:=List.mem_filterMap.1 m1;refine zbo _ (List.mem_map.2 ⟨f0,m2,?_⟩);rw[Jr (ρ:=ρ2) hτok m3];have hps:=d1;unfold SS.ok at hps;simp only[za,zb]at hps;exact (c6.bG AU (hps.2.2.1 f0 m2)).symm
        ·exact zbt _ hf
       ·rw[hr];show r.den ρ2=_;rw[wW hτok hr];exact SV.bG AU d3
      ·cases hpc
end
end Go.Rd
namespace Go.Rd
open Go.aI Go.RowKit Go.Rt
 abbrev Bd:=List (Nat×Sb)
def gS (base:Nat)(b:Bd)(k:Nat)(x:Sb):Bd:=bif Nat.blt k base then b else match yK b k with|some _=>b|none=>(k,x)::b
def mC (base:Nat)(b:Bd):SC->SC->Bd
 |.int _ ⟨.ofNat 0,[(.ofNat 1,.n k)]⟩,.int _ e=>gS base b k (.n e)
 |.int _ ⟨.ofNat 0,[(.ofNat 1,.z k)]⟩,.int _ e=>gS base b k (.z e)
 |.int _ ⟨.ofNat 0,[(.ofNat 1,.wt k)]⟩,.int _ ⟨.ofNat 0,[(.ofNat 1,.wt y)]⟩=>gS base b k (.vr y)
 |.bool (.v k),.bool be=>gS base b k (.b be)
 |.str k,x=>gS base b k (.s x)
 |.oz _ k,.oz _ y=>gS base b k (.vr y)
 |.ref k,.ref y=>gS base b k (.vr y)
 |.ref k,x=>gS base b k (.v x)
 |.cu k _,.cu y _=>gS base b k (.vr y)
 |.cV k,.cV y=>gS base b k (.vr y)
 |.wE k _,.wE y _=>gS base b k (.vr y)
 |.oB k _ _ _,.oB y _ _ _=>gS base b k (.vr y)
 |.vd k _,.vd y _=>gS base b k (.vr y)
 |_,_=>b
def QG (base:Nat)(b:Bd):List SC->List SC->Bd
 |x::xs,y::ys=>QG base (mC base b x y) xs ys
 |_,_=>b
def Vw (base:Nat)(b:Bd):List (Bool×List SC)->List (Bool×List SC)->Bd
 |x::xs,y::ys=>Vw base (QG base b x.2 y.2) xs ys
 |_,_=>b
def mV (base:Nat)(b:Bd):SV->SV->Bd
 |.v _ cs,.v _ ds=>QG base b cs ds
 |.dC l,.dC m=>Vw base b l m
 |.ve _ bs cs,.ve _ bs' ds=>QG base (QG base b bs bs') cs ds
 |.yl k,.yl y=>gS base b k (.vr y)
 |_,_=>b
def QH (base:Nat)(b:Bd):List SV->List SV->Bd
 |x::xs,y::ys=>QH base (mV base b x y) xs ys
 |_,_=>b
def qK (base:Nat)(b:Bd)(k:Nat):Option Nat:=sR ⟨base,b⟩ k
def mI (base:Nat)(b:Bd)(g g':Nat):Bd:=match g,g' with
 |k+1,y+1=>gS base b k (.vr y)
 |_,_=>b
def Vx:List SO->Option (Nat×Nat)
 | []=>none
 |.am y g _::_=>some (y,g)
 |_::l=>Vx l
def UM:List SO->Nat->Option Nat
 | [],_=>none
 |.iF y _ g::l,x=>bif Nat.beq y x then some g else UM l x
 |_::l,x=>UM l x
def TL:List SO->Nat->Option (Nat×Nat×LE)
 | [],_=>none
 |.ms y x _ g f _::l,k=>bif Nat.beq y k then some (x,g,f)else TL l k
 |_::l,k=>TL l k
def mO (base:Nat)(s:SS)(b:Bd):SO->Bd
 |.loc k _ cs=>(match qK base b k with|some y=>(match ic s.os y with|some (_,ds)=>QG base b cs ds|none=>b)|none=>b)
 |.ul x _ g=>(match qK base b x with|some y=>(match BH s.os y with|some (.ul _ g')=>mI base b g g'|_=>b)|none=>b)
 |.bl x m _=>(match qK base b x with|some y=>(match BH s.os y with|some (.bl m' _)=>gS base b m (.vr m')|_=>b)|none=>b)
 |.am k g _=>(match qK base b k with|some y=>(match yF s.os y with|some (.am g' _)=>mI base b g g'|_=>b)|none=>(match Vx s.os with|some (y,g')=>mI base (gS base b k (.vr y)) g g'|none=>b))
 |.km k _ g e=>(match qK base b k with|some y=>(match yF s.os y with|some (.km _ g' e')=>mC base (mI base b g g') (.int .i64 e) (.int .i64 e')|some (.kq _ g' e' _)=>mC base (mI base b g g') (.int .i64 e) (.int .i64 e')|_=>b)|none=>b)
 |.kq k _ g e _=>(match qK base b k with|some y=>(match yF s.os y with|some (.kq _ g' e' _)=>mC base (mI base b g g') (.int .i64 e) (.int .i64 e')|_=>b)|none=>b)
 |.rm x _ g e=>(match qK base b x with|some y=>(match UI s.os y with|some (_,g',e')=>mC base (mI base b g g') (.int .i64 e) (.int .i64 e')|none=>b)|none=>b)
 |.it k m n r _ _=>(match qK base b k with|some y=>(match TG s.os y with|some (m',n',r',_,_)=>mC base (mC base (mC base b m m') (.int .i64 n) (.int .i64 n')) (.int .i64 r) (.int .i64 r')|none=>b)|none=>b)
 |.iF x _ g=>(match qK base b x with|some y=>(match UM s.os y with|some g'=>mI base b g g'|none=>b)|none=>b)
 |.ms k x _ g f _=>(match qK base b k with|some y=>(match TL s.os y with|some (x',g',f')=>mC base (mI base (gS base b x (.vr x')) g g') (.int .i64 f) (.int .i64 f')|none=>b)|none=>b)
 |.im k e=>(match qK base b k with|some y=>(match yF s.os y with|some (.im e')=>mC base b (.int .i64 e) (.int .i64 e')|_=>b)|none=>b)
 |_=>b
def mT (base:Nat)(s:SS)(b:Bd):c6->Bd
 |.sl x _ g=>(match qK base b x with|some y=>(match py s.ty y with|some (_,g')=>mI base b g g'|none=>b)|none=>b)
 |.pt x _ g=>(match qK base b x with|some y=>(match pI s.ty y with|some (_,g')=>mI base b g g'|none=>b)|none=>b)
 |.mp x _ g=>(match qK base b x with|some y=>(match BF s.ty y with|some (_,g')=>mI base b g g'|none=>b)|none=>b)
 |.el _ _ _ _ _=>b
 |.sj g e v=>(match sI ⟨base,b⟩ g,sE ⟨base,b⟩ e with|some g',some e'=>(match Nn s.ty g' e' with|some w=>mC base b v w|none=>b)|_,_=>b)
def fG (w:Bool):List (Nat×Nat×Bool)->Option (Nat×Nat×Bool)
 | []=>none
 |p::l=>bif !w||p.2.2 then some p else fG w l
def mG (base:Nat)(s:SS)(b:Bd)(p:Nat×Nat×Bool):Bd:=match sI ⟨base,b⟩ p.1 with
 |some g=>(match fG p.2.2 (s.gs.filter fun q=>Nat.beq q.1 g)with|some q=>gS base b p.2.1 (.vr q.2.1)|none=>b)
 |none=>(match fG p.2.2 s.gs with|some q=>gS base (mI base b p.1 q.1) p.2.1 (.vr q.2.1)|none=>b)
def mS (base:Nat)(s:SS)(b:Bd)(p:Nat×Nat):Bd:=match sY ⟨base,b⟩ p.1 with
 |some d=>(match Gf s.sb d with|some g=>mI base b p.2 g|none=>b)
 |none=>b
def mW (base:Nat)(s:SS)(b:Bd)(p:Nat×LE×LE):Bd:=match sR ⟨base,b⟩ p.1,sE ⟨base,b⟩ p.2.1 with
 |some y,some j=>(match yp s y j with|some w=>mC base b (.int .i64 p.2.2) (.int .i64 w)|none=>b)
 |none,some j=>mC base b (.int .i64 p.2.2) (.int .i64 j)
 |_,_=>b
def mA (base:Nat)(s:SS)(b:Bd)(p:Nat×SC×LE):Bd:=match sY ⟨base,b⟩ p.1,sC ⟨base,b⟩ p.2.1 with
 |some d,some x=>(match sX s.ats d x with|some e=>mC base b (.int .i64 p.2.2) (.int .i64 e)|none=>b)
 |_,_=>b
def mL (base:Nat)(s:SS)(b:Bd)(p:Nat×SV):Bd:=match uI s.L p.1 with|some w=>mV base b p.2 w|none=>b
def uY (base:Nat)(s0 s:SS)(b:Bd):Bd :=
 let b:=s0.L.foldl (mL base s) b
 let b:=s0.os.foldl (mO base s) b
 let b:=s0.ty.foldl (mT base s) b
 let b:=s0.gs.foldl (mG base s) b
 let b:=s0.sb.foldl (mS base s) b
 let b:=s0.gs.foldl (mG base s) b
 let b:=s0.os.foldl (mO base s) b
 let b:=s0.pw.foldl (mW base s) b
 s0.ats.foldl (mA base s) b
def Dj:SV->Option (Nat×List SC×List SC)
 |.v false [.fn f]=>some (f,[],[])
 |.ve f bs cs=>some (f,bs,cs)
 |_=>none
def zf (l:List SC):List SV:=l.map fun x=>.v false [x]
theorem yP (ρ:aZ)(l:List SC):(zf l).map (SV.den ρ)=aB ρ l:=by
 unfold zf aB;rw[zdx];exact zav fun x _=>rfl
structure Rk where
 aU:List Sp
 str:Nat
 ms:LE
 yh:Option (Nat×Nat×(List SV->Option Nat->SS->(SS->R)->R)):=none
def PN (rk:Rk)(sp:Sp)(σ:Su)(s:SS):Bool:=Nat.blt sp.str rk.str||(Nat.beq sp.str rk.str&&(match sE σ sp.ms with|some e=>bo s e&&bo s ((rk.ms.sub e).bk (-1))|none=>false))
def UN (Φ:Forms)(rk:Rk)(sp:Sp)(vs:List SV)(d:Option Nat)(s:SS)(K:SS->R):R :=
 let σ:=uY 0 sp.pre s (QH 0 [] sp.ar vs)
 match pF Φ sp σ vs s with
  |some left=>bif PN rk sp ⟨0,σ⟩ s then Dg (sp.fR.map (Jy sp σ left d s K))else .bad 310 s
  |none=>.bad 311 s
def Bo (Φ:Forms)(f:Nat)(vs:List SV)(s:SS):List Sp->Option Sp
 | []=>none
 |sp::l=>bif Nat.beq sp.f f&&(pF Φ sp (uY 0 sp.pre s (QH 0 [] sp.ar vs)) vs s).isSome then some sp else Bo Φ f vs s l
theorem wZ {Φ:Forms}{f:Nat}{vs:List SV}{s:SS}:∀{l:List Sp}{sp:Sp},Bo Φ f vs s l=some sp->sp∈l/\sp.f=f
 | [],_,h=>by cases h
 |x::l,sp,h=>by
  have h:(bif Nat.beq x.f f&&(pF Φ x (uY 0 x.pre s (QH 0 [] x.ar vs)) vs s).isSome then some x else Bo Φ f vs s l)=some sp:=h;cases hb:(Nat.beq x.f f&&(pF Φ x (uY 0 x.pre s (QH 0 [] x.ar vs)) vs s).isSome)with
  |true=>rw[hb]at h;cases h;rw[za]at hb;exact⟨zac ..,ai hb.1⟩
  |false=>rw[hb]at h;obtain⟨h1,h2⟩:=wZ h;exact⟨zaa _ h1,h2⟩
def PO (cf:Cf)(rk:Rk)(f:Nat)(vs:List SV)(d:Option Nat)(s:SS)(K:SS->R):R:=match Bo cf.Φ f vs s rk.aU with|some sp=>UN cf.Φ rk sp vs d s K|none=>.bad 312 s
def PQ (q:Nat):SV->Bool|.yl p=>Nat.beq p q|_=>false
def Ll (rk:Rk)(fv:SV)(vs:List SV)(d:Option Nat)(s:SS)(K:SS->R):R:=match rk.yh with
 |some (q,n,h)=>bif PQ q fv&&(Nat.blt q n&&Nat.ble n s.nx)then h vs d s K else .bad 314 s
 |none=>.bad 313 s
def kM (cf:Cf)(rk:Rk)(fv:SV)(vs:List SV)(d:Option Nat)(s:SS)(K:SS->R):R:=match Dj fv with
 |some (f,bs,cs)=>PO cf rk f (zf bs++(vs++zf cs)) d s K
 |none=>Ll rk fv vs d s K
section
variable {c:Cx}{T:Tm}{G G':GH}{Γ Γ':dy}{ρ ρ':aZ}{s0 s s':SS}{ops:Array Oper}{i d:Nat}{cf:Cf}
def RO (c:Cx)(q n:Nat)(h:List SV->Option Nat->SS->(SS->R)->R)(ρ0:aZ):Prop :=
 ∀(ρ:aZ) (ops:Array Oper) (i:Nat) (dd:Option Nat) (fo:Operand) (xs:List Operand) (vs:List SV) (T:Tm) (G:GH) (Γ:dy) (s:SS) (K:SS->R),cM n ρ0 ρ->n<=s.nx->(af ops i).guard=none->(af ops i).dst=dd->(∀d,dd=some d->d<c.nt)->ow (af ops i)=some (fo,xs) ->
  bH c.nt T fo (.zg (ρ q).nn)->QF s xs=some vs->(h vs dd s K).Ok->Ok c T G Γ ρ s->Hv c T G Γ ops i s ρ K
structure jg (c:Cx) (rk:Rk) (ρ:aZ):Prop where
 sp:∀sp∈rk.aU,∀m:Nat,(sp.str<rk.str∨(sp.str=rk.str/\(m:Int)<rk.ms.ev ρ))->kx c.P c.Φ sp m
 yh:∀q n h,rk.yh=some (q,n,h)->∃ρ0,cM n ρ0 ρ/\RO c q n h ρ0
def Rk.ur (rk:Rk)(m:Nat):Bool:=rk.ms.lt m&&(match rk.yh with|some (_,n,_)=>Nat.ble n m|none=>true)
theorem PR {rk:Rk}{fo:Operand}{xs:List Operand}{fv:SV}{vs:List SV}{dd:Option Nat}{K:SS->R}(hΦ:cf.Φ=c.Φ)(hR:jg c rk ρ)(hg:(af ops i).guard=none)(hd:(af ops i).dst=dd)(hlt:∀d,dd=some d->d<c.nt)(hc:ow (af ops i)=some (fo,xs))(hf:bH c.nt T fo (fv.den ρ))(hv:QF s xs=some vs)(h:(kM cf rk fv vs dd s K).Ok)(hk:Ok c T G Γ ρ s):Hv c T G Γ ops i s ρ K:=by
 unfold kM at h;cases hfn:Dj fv with
 |none =>
  rw[hfn]at h;have h9:(Ll rk fv vs dd s K).Ok:=h;clear h;unfold Ll at h9;split at h9
  ·rename_i q n hh hy;cases hb:(PQ q fv&&(Nat.blt q n&&Nat.ble n s.nx))with
   |false=>rw[hb]at h9;cases h9
   |true =>
    rw[hb]at h9;simp only[za]at hb;obtain⟨b1,b2,b3⟩:=hb;obtain⟨ρ0,a0,y0⟩:=hR.yh q n hh hy
    have ef:fv=.yl q:=by
     unfold PQ at b1;split at b1
     ·have:=ai b1;subst this;rfl
     ·cases b1
    subst ef;exact y0 ρ ops i dd fo xs vs T G Γ s K a0 (aK b3) hg hd hlt hc hf hv h9 hk
  ·cases h9
 |some p =>
  obtain⟨f,bs,cs⟩:=p;rw[hfn]at h;have h:(PO cf rk f (zf bs++(vs++zf cs)) dd s K).Ok:=h;have hev:=Dh hk.q hv;have evs:(zf bs++(vs++zf cs)).map (SV.den ρ)=aB ρ bs++(vs.map (SV.den ρ)++aB ρ cs):=by rw[zat,zat,yP,yP]
  have hnfl:=Di (zf bs++(vs++zf cs)) ρ;rw[evs]at hnfl;unfold PO at h;rw[hΦ]at h;generalize hvs':zf bs++(vs++zf cs)=vs' at h evs;cases hp:Bo c.Φ f vs' s rk.aU with
  |none=>rw[hp]at h;cases h
  |some sp =>
   rw[hp]at h;obtain⟨hm,hsf⟩:=wZ hp
   have hf:bH c.nt T fo (.func (.func f) (aB ρ bs) (aB ρ cs)):=by
    have:fv.den ρ=.func (.func f) (aB ρ bs) (aB ρ cs):=by
     unfold Dj at hfn;split at hfn
     ·cases hfn;rfl
     ·cases hfn;rfl
     ·cases hfn
    rw[<-this];exact hf
   have h:(UN c.Φ rk sp vs' dd s K).Ok:=h;unfold UN at h;simp only at h;generalize uY 0 sp.pre s (QH 0 [] sp.ar vs')=σ at h;split at h
   ·rename_i left hco;cases hrk:PN rk sp ⟨0,σ⟩ s with
    |false=>rw[hrk]at h;cases h
    |true =>
     rw[hrk]at h;simp only[cond_true]at h;obtain⟨hin,hargs,hcore⟩:=GF hk hco h
     have hσ:jf ρ ⟨0,σ⟩:=by
      unfold pF at hco;cases hb:(sub c.Φ (PK sp.pre) s ⟨0,σ⟩&&(rO ⟨0,σ⟩ sp.ar vs'&&(σ.all (fun p=>Nat.blt p.1 sp.pre.nx&&p.2.lt s.nx)&&((List.range sp.pre.nx).all (fun k=>(yK σ k).isSome)&&s.ok))))with
      |false=>rw[hb]at hco;cases hco
      |true =>
       rw[za]at hb;have b1:=hb.1;unfold sub at b1;rw[za]at b1;exact (ly b1.1 hk.sat).1
     have hH:kx c.P c.Φ sp ((sp.ms.ev ((⟨0,σ⟩:Su).up ρ)).toNat):=by
      refine hR.sp sp hm _ ?_;unfold PN at hrk;rw[zar,za]at hrk;rcases hrk with hrk|⟨h1,h2⟩
      ·exact .inl (av hrk)
      ·refine .inr ⟨ai h1,?_⟩;split at h2
       ·rename_i e he;rw[za]at h2;have a1:=ax h2.1 hk.sat;have a2:=ax h2.2 hk.sat;rw[LE.aO,LE.aw]at a2;rw[<-eH hσ he];omega
       ·cases h2
     have hspec:=hH _ G Γ hin rfl;rw[hsf,<-hargs,evs]at hspec;cases hdd:dd with
     |some d =>
      rw[hdd]at hd hlt hcore;refine gm.OM hg hd (hlt d rfl) hc hf hev hnfl hspec fun v G' ⟨Γ',ρ',p,m1,m2,m3,m4⟩ hnf hgr=>⟨rfl,rfl,?_⟩;obtain⟨ρ2,s2,k1,k2,k3,k4,k5⟩:=hcore G' Γ' ρ' p m1 m3 hgr m4;refine⟨Γ',ρ2,_,k1,k2,k3,?_⟩;have:=k4.put (v:=UL (sV (⟨0,σ++Kh sp.pre.nx s.nx (p.2.nx-sp.pre.nx)⟩:Su) p.1)) d;rw[k5,<-m2]at this;exact this
     |none =>
      rw[hdd]at hd hcore;refine gm.K3 hg hd hc hf hev hnfl hspec fun v G' ⟨Γ',ρ',p,m1,m2,m3,m4⟩ hgr=>⟨rfl,rfl,?_⟩;obtain⟨ρ2,s2,k1,k2,k3,k4,k5⟩:=hcore G' Γ' ρ' p m1 m3 hgr m4;exact⟨Γ',ρ2,s2,k1,k2,k3,k4⟩
   ·cases h
end
end Go.Rd
namespace Go.Rd
open Go.aI Go.RowKit Go.Rt
section
variable {c:Cx}{T:Tm}{G:GH}{Γ:dy}{ρ ρ':aZ}{s s':SS}{cf:Cf}{ops:Array Oper}{i d:Nat}
theorem Ok.Vy {osA:List SO}{o o':SO}(hk:Ok c T G Γ ρ s)(hr:s.os.Perm (osA++[o]))(hb:(o'.den ρ).aS=(o.den ρ).aS)(h:dO c.P c.Φ G Γ (o.den ρ)->dO c.P c.Φ G Γ (o'.den ρ)):Ok c T G Γ ρ (dm s (osA++[o'])):=by
 refine Ok.Rx hk ?_;have hpd:=e7 hr ρ;rw[zat,zbj]at hpd;have hq:=hk.q;have hm:∀x,x∈osA.map (SO.den ρ)++[o.den ρ]->x∈(s.den ρ).os:=fun x hx=>hpd.mem_iff.2 hx;refine⟨hq.ml,hq.at_,hq.uB,hq.rl,hq.grow,fun x hx=>?_,fun x hx b yz=>?_,?_,hq.ht,hq.ty,hq.gs⟩
 ·rcases List.mem_append.1 hx with hx|hx
  ·exact hq.own x (hm x (zbo _ hx))
  ·rw[List.mem_singleton.1 hx];exact h (hq.own _ (hm _ (zbt _ (zaz _))))
 ·rcases List.mem_append.1 hx with hx|hx
  ·exact hq.new x (hm x (zbo _ hx)) b yz
  ·rw[List.mem_singleton.1 hx,hb]at yz;exact hq.new _ (hm _ (zbt _ (zaz _))) b yz
 ·have h1:(cm (osA.map (SO.den ρ)++[o.den ρ])).Nodup:=(hpd.filterMap _).nodup hq.nd
  have e:cm (osA.map (SO.den ρ)++[o'.den ρ])=cm (osA.map (SO.den ρ)++[o.den ρ]):=by
   unfold cm;simp only[zdf,zdu,List.filterMap_nil,hb]
  show (cm (osA.map (SO.den ρ)++[o'.den ρ])).Nodup;rw[e];exact h1
end
end Go.Rd

namespace Go.Rd
open Go.aI Go.RowKit Go.Rt
theorem mm (p:AV×AV)(es es':List (AV×AV)):jk (p::es) es'=(bif (bD p.1 es').isNone then 1 else 0)+jk es es':=by
 unfold jk;rw[List.filter_cons];cases h:(bD p.1 es').isNone with
 |true=>rw[if_pos rfl];simp[Nat.add_comm]
 |false=>rw[if_neg (by decide)];simp
theorem Bp {p:AV×AV}{k v:AV}{es':List (AV×AV)}(hp:cK .str p.1)(hk:cK .str k)(h':∀p∈es',cK .str p.1):(bif (bD p.1 (ez k v es')).isNone then 1 else 0)<=(bif (bD p.1 es').isNone then 1 else 0:Nat):=by
 rw[nX hk hp h'];cases hb:aW p.1 k with
 |true=>rw[if_pos rfl];exact zbl _
 |false=>rw[if_neg (by decide)];exact zad _
theorem rP {k v:AV}{es':List (AV×AV)}(hk:cK .str k)(h':∀p∈es',cK .str p.1):∀{es:List (AV×AV)},(∀p∈es,cK .str p.1)->jk es (ez k v es')<=jk es es'
 | [],_=>zad _
 |p::es,h=>by
  rw[mm,mm];exact Nat.add_le_add (Bp (h p (zac ..)) hk h') (rP hk h' fun q hq=>h q (zaa _ hq))
theorem xa {k v u:AV}{es':List (AV×AV)}(hk:cK .str k)(h':∀p∈es',cK .str p.1)(hn:bD k es'=none):∀{es:List (AV×AV)},(∀p∈es,cK .str p.1)->bD k es=some u->jk es (ez k v es')+1<=jk es es'
 | [],_,h=>by cases h
 |p::es,h,hu=>by
  have hu:(bif aW k p.1 then some p.2 else bD k es)=some u:=hu;have hp:=h p (zac ..);have ht:=fun q hq=>h q (zaa p hq);rw[mm,mm];cases hb:aW k p.1 with
  |true =>
   have e1:bD p.1 es'=none:=by rw[<-qJ hk hp hb h'];exact hn
   have e2:bD p.1 (ez k v es')=some v:=by rw[nX hk hp h',oZ hp hk,hb,if_pos rfl]
   rw[e1,e2];have:=rP (v:=v) hk h' ht;show 0+jk es (ez k v es')+1<=1+jk es es';omega
  |false =>
   rw[hb]at hu;have:=xa (v:=v) hk h' hn ht hu;have:=Bp (v:=v) hp hk h';omega
theorem GG (es:List (AV×AV)):jk es []=es.length:=by
 unfold jk;exact congrArg List.length (List.filter_eq_self.2 fun p _=>rfl)
def RP (b:Nat):SO->Bool|.ms y _ _ _ _ _=>Nat.beq y b|_=>false
def PS (cf:Cf)(cc g:Nat)(s:SS)(u:SC):Bool:=match cf.Φ.mv cc,ghost s.gs g with
 |.F5 _,some d=>(match sX s.ats d u with|some e=>bo s e|none=>false)
 |_,_=>false
def JA (q:Option SC)(u:SC):Bool:=match q with|some u'=>u'.same u|none=>false
def PT (cf:Cf)(t:TypeId)(m k:SV)(ok:Bool)(s:SS)(K:SV->SS->R):R:=match m with
 |.v false [.cV b]=>(match cf.P.underlying t,pB (RP b) s.os with
  |some (.map kt et),some (.ms _ x cc g f _,osA)=>(match k,(zeroOf cf.P et).bind sW with
   |.v false [u],some (.v ag cs)=>bif gT cf kt .str&&gq .str (.v false [u])then
    (K (ke ok (ag,cs)) (dm s (osA++[.ms b x cc g f (some u)]))).and (K (yu ok (true,[])) s)
    else .bad 290 s
   |_,_=>.bad 291 s)
  |_,_=>Rv cf t m k ok s K)
 |_=>Rv cf t m k ok s K
def PU (cf:Cf)(t:TypeId)(m k v:SV)(s:SS)(K:SS->R):R:=match m with
 |.v false [.cV b]=>(match cf.P.underlying t,pB (RP b) s.os with
  |some (.map kt et),some (.ms _ x cc g f q,osA)=>(match k,v with
   |.v false [u],.v true []=>bif (gT cf kt .str&&gq .str (.v false [u]))&&F7 (cf.Φ.pk cc) .str then
    (bif (JA q u&&PS cf cc g s u)&&(f.lt s.nx&&u.lt s.nx)then fresh s fun n s=>K (jR (dm s (osA++[.ms b x cc g (.a (.n n)) none])) (.a (.n n)) (f.bk (-1)))else K (dm s (osA++[.ms b x cc g f none])))
    else .bad 292 s
   |_,_=>.bad 293 s)
  |_,_=>TE cf t m k v s K)
 |_=>TE cf t m k v s K
def RQ (b:Nat):SO->Bool|.em y pk=>Nat.beq y b&&F7 pk .str|_=>false
def PV (g:Nat)(x:SC)(s:SS)(K:SS->R):R:=match ghost s.gs g with
 |some d=>bif x.lt s.nx&&Nat.blt d s.nx then (K (gk s (d,x,.k (-1)))).and (fresh s fun n s=>K (gk s (d,x,.a (.n n))))else .bad 297 s
 |none=>.bad 298 s
def PW:SC->Bool|.str _=>true|.mF _ _=>true|_=>false
def PX (s:SS)(d d':Nat):List (Nat×SC×LE):=(s.ats.filter fun p=>Nat.beq p.1 d&&(PW p.2.1||bo s p.2.2)).map fun p=>(d',p.2.1,p.2.2)
def yQ (g:Nat)(at_ e:LE)(x:SC)(s:SS)(K:SS->R):R:=match jd s.gs g with
 |some d=>bif bo s e&&(e.lt s.nx&&(Nat.blt d s.nx&&(bJ s.nx g&&(at_.lt s.nx&&(bo s (at_.sub (.a (.gn d 2)))&&((iT x).isSome&&(x.lt s.nx&&pr s g)))))))then
  fresh s fun d' s'=>fresh (jR (Bi (pC s' g d' true s.os (PX s d d') [] [] (mj s.sb d d')) d d' [0,1,3,4,5]) (.a (.gn d' 2)) (at_.bk 1)) fun y s2 =>
   K (jR (gk (aY s2 (.sj g at_ x)) (d',.int .i64 at_,.a (.wt y))) (.a (.wt y)) e)
  else .bad 299 s
 |none=>.bad 300 s
section
variable {c:Cx}{T:Tm}{G:GH}{Γ:dy}{ρ ρ':aZ}{s s':SS}{cf:Cf}{ops:Array Oper}{i d:Nat}
theorem LJ {t:TypeId}{x y:Operand}{v u:SV}{ok:Bool}{K:SV->SS->R}(ho:(af ops i).op=.lookup t x y ok)(hg:(af ops i).guard=none)(hP:cf.P=c.P)(hΦ:cf.Φ=c.Φ)(hK:eX cf)(h:(PT cf t v u ok s K).Ok)(hk:Ok c T G Γ ρ s)(hx:bH c.nt T x (v.den ρ))(hy:bH c.nt T y (u.den ρ)):Lo c T G Γ ops i s ρ K:=by
 unfold PT at h;split at h
 ·rename_i b;have hx:bH c.nt T x (.cV (ρ b).nn):=hx;split at h
  ·rename_i kt et y' xv cc g f q osA hu hr;obtain⟨r1,r2⟩:=gj hr;have e4:y'=b:=ai r1;subst e4;have hu0:=hu;rw[hP]at hu;split at h
   ·rename_i uu ag cs hz;rw[hP]at hz;cases hzz:zeroOf c.P et with
    |none=>rw[hzz]at hz;cases hz
    |some zz =>
     rw[hzz]at hz;have hz:sW zz=some (.v ag cs):=hz;have hz1:∀ρ,dS ρ (ag,cs)=zz:=fun ρ=>jc hz ρ;cases hb:(gT cf kt .str&&gq .str (.v false [uu]))with
     |false=>rw[hb]at h;cases h
     |true =>
      rw[hb]at h;simp only[cond_true]at h;rw[za]at hb;have hMt:=ij hb.1 hK;rw[hP]at hMt;obtain⟨o1,o2,mb,es,es',o3,o4,o5,o6,o7,o8,o9⟩:=hk.own (r2.mem_iff.2 (by simp:SO.ms y' xv cc g f q∈osA++[.ms y' xv cc g f q]));have hkf:=fY hb.2 ρ;have hl:=bq.lookup (n0:=c.n0) (nt:=c.nt) (T:=T) (hp:=c.hp) (nx:=c.nx) hg ho hu hzz hMt hx hy hkf o6 fun p hp=>(o7 p hp).1;obtain⟨h1,h2⟩:=R.gp h;cases hf:bD ((SV.v false [uu]).den ρ) es' with
      |none =>
       rw[hf]at hl;refine Lo.to (s':=dm s (osA++[.ms y' xv cc g f (some uu)])) rfl (Lo.here (Ok.Vy (o:=.ms y' xv cc g f q) (o':=.ms y' xv cc g f (some uu)) hk r2 rfl fun⟨a1,a2,mb1,fs,fs',a3,a4,a5,a6,a7,a8,_⟩=>⟨a1,a2,mb1,fs,fs',a3,a4,a5,a6,a7,a8,fun k hq=>?_⟩) h1 (by rw[jO,hz1];exact hl));cases hq;have e:fs'=es':=by rw[a6]at o6;cases o6;rfl
       rw[e];exact⟨hkf,hf⟩
      |some w =>
       obtain⟨p,m1,e2⟩:=jA hf;rw[hf,<-e2,(o7 p m1).2]at hl;exact Lo.here hk h2 (by rw[kj];exact hl)
   ·cases h
  ·exact C4 ho hg hP hΦ hK h hk hx hy
 ·exact C4 ho hg hP hΦ hK h hk hx hy
theorem JB {b xv cc g:Nat}{f f':LE}{q:Option SC}{osA:List SO}{k:SV}{es':List (AV×AV)}(hk:Ok c T G Γ ρ s)(hr:s.os.Perm (osA++[.ms b xv cc g f q]))(hG:G (ρ b).nn=some (.map es'))(hkf:cK .str (k.den ρ))
  (hn:∀es mb,(ρ xv).vv=.cV mb->Γ.m mb=some (.map cc (ig ρ g))->G mb=some (.map es)->jk es es'<=(f.ev ρ).toNat->jk es (ez (k.den ρ) (.agg []) es')<=(f'.ev ρ).toNat):Ok c T (dj G (ρ b).nn (.map (ez (k.den ρ) (.agg []) es'))) Γ ρ (dm s (osA++[.ms b xv cc g f' none])):=by
 obtain⟨o1,o2,mb,es,es1,o3,o4,o5,o6,o7,o8,o9⟩:=hk.own (hr.mem_iff.2 (by simp:SO.ms b xv cc g f q∈osA++[.ms b xv cc g f q]));have e:es1=es':=by rw[hG]at o6;cases o6;rfl
 subst e;have hpd:=e7 hr ρ;rw[zat,zbj]at hpd;have hmb:mb≠(ρ b).nn:=fun e=>by rw[e]at o4;rw[o1]at o4;cases o4
 have hQ:=hk.q.A8 (b:=(ρ b).nn) (G':=dj G (ρ b).nn (.map (ez (k.den ρ) (.agg []) es1))) (Γ':=Γ) (osA:=osA.map (SO.den ρ)) (o:=SO.den ρ (.ms b xv cc g f q)) (o':=SO.den ρ (.ms b xv cc g f' none)) (tys':=[]) hpd (dG (.inl (by rw[hG];rfl))) (fun _ _=>rfl) (fun k h=>aV h) (by rw[au];rfl)
  (fun _ _ _ h=>by rw[hG]at h;cases h) (fun _ _ _ h=>by rw[hG]at h;cases h) (fun x h=>by rw[o1]at h;cases h) rfl rfl (.inl rfl) rfl (fun x _ _ h=>by rw[o1]at h;cases h)
  (fun hr' hl'=>?_) (fun f h=>by cases h)
 ·exact Ok.Rx hk hQ
 ·refine⟨o1,o2,mb,es,ez (k.den ρ) (.agg []) es1,o3,o4,by rw[aV hmb];exact o5,au _ _ _,fun p hp=>⟨gA hkf (fun p hp=>(o7 p hp).1) p hp,?_⟩,hn es mb o3 o4 o5 o8,fun k hq=>by cases hq⟩;rcases iS hp with h|h
  ·exact h
  ·exact (o7 p h).2
theorem LK {t:TypeId}{ym yk yv:Operand}{m k v:SV}{K:SS->R}(ho:(af ops i).op=.mapUpdate t ym yk yv)(hg:(af ops i).guard=none)(hd:(af ops i).dst=none)(hP:cf.P=c.P)(hΦ:cf.Φ=c.Φ)(hK:eX cf)(h:(PU cf t m k v s K).Ok)(hk:Ok c T G Γ ρ s)(hm:bH c.nt T ym (m.den ρ))(hkk:bH c.nt T yk (k.den ρ))(hv:bH c.nt T yv (v.den ρ)):Hv c T G Γ ops i s ρ K:=by
 unfold PU at h;split at h
 ·rename_i b;split at h
  ·rename_i kt et y' xv cc g f q osA hu hr;obtain⟨r1,r2⟩:=gj hr;have e4:y'=b:=ai r1;subst e4;rw[hP]at hu;split at h
   ·rename_i uu;cases hb:((gT cf kt .str&&gq .str (.v false [uu]))&&F7 (cf.Φ.pk cc) .str)with
    |false=>rw[hb]at h;cases h
    |true =>
     rw[hb]at h;simp only[cond_true]at h;rw[za,za]at hb;obtain⟨hb,hpk⟩:=hb;have hpk:=pj hpk;rw[hΦ]at hpk;have hMt:=ij hb.1 hK;rw[hP]at hMt;have hkf:cK .str ((SV.v false [uu]).den ρ):=fY hb.2 ρ;obtain⟨o1,o2,mb,es,es',o3,o4,o5,o6,o7,o8,o9⟩:=hk.own (r2.mem_iff.2 (by simp:SO.ms y' xv cc g f q∈osA++[.ms y' xv cc g f q]));have hk':∀p∈es',cK .str p.1:=fun p hp=>(o7 p hp).1
     have one:∀{mb' fs},(ρ xv).vv=.cV mb'->G mb'=some (.map fs)->fs=es:=fun h1 h2=>by
      have h0:(ρ xv).vv=.cV mb:=o3;rw[h0]at h1;cases h1;rw[o5]at h2;cases h2;rfl
     cases hc:((JA q uu&&PS cf cc g s uu)&&(f.lt s.nx&&uu.lt s.nx))with
     |true =>
      rw[hc]at h;simp only[cond_true]at h;simp only[za]at hc;obtain⟨⟨c1,c2⟩,c3,c4⟩:=hc
      have hnone:bD ((SV.v false [uu]).den ρ) es'=none:=by
       unfold JA at c1;split at c1
       ·rename_i u';have:=(o9 (u'.den ρ) rfl).2;rw[SC.aN c1 ρ]at this;exact this
       ·cases c1
      have hin:(∀p∈es,cK .str p.1)/\∃w,bD ((SV.v false [uu]).den ρ) es=some w:=by
       obtain⟨_,es2,e1,_,m1,m2⟩:=hk.q.ht.b _ _ o4;have e:es2=es:=by rw[o5]at e1;cases e1;rfl
       subst e;unfold PS at c2;rw[hΦ]at c2;split at c2
       ·rename_i bb dd hmv hgd;rw[hmv]at m2;obtain⟨_,a2,a3,a4,a5⟩:=m2;refine⟨fun p hp=>by have:=m1 p hp;rw[a2]at this;exact this,?_⟩;split at c2
        ·rename_i e hat;have hpos:=ax c2 hk.sat;obtain⟨x',n1,n2⟩:=nY hat;rcases hk.sat.ats _ n1 with ⟨q1,q2⟩|⟨q1,_⟩
         ·have q2:po (ρ dd).gg (x'.den ρ)=some (e.ev ρ).toNat:=q2;obtain⟨l,m,ek⟩:=hkf;have ek':uu.den ρ=.str l m:=ek;rw[n2 ρ,ek']at q2;have q2:(ρ dd).gg.at_ l m=some (e.ev ρ).toNat:=q2;rw[<-cR hgd hk]at q2;refine⟨.int .i64 (.ofNat (e.ev ρ).toNat),?_⟩;rw[ek,a4 l m,q2];rfl
         ·have q1:e.ev ρ<0:=q1;omega
        ·cases c2
       ·cases c2
      obtain⟨hk2,w,hw⟩:=hin;have hlt:=xa (v:=.agg []) hkf hk' hnone hk2 hw;have hf1:1<=(f.ev ρ).toNat:=by have:jk es es'<=(f.ev ρ).toNat:=o8;omega
      obtain⟨p1,p2,p3,p4⟩:=aA h hk (.n ((f.ev ρ).toNat-1));have hx:(LE.a (.n s.nx)).ev (ρ.up s.nx (.n ((f.ev ρ).toNat-1)))=(((f.ev ρ).toNat-1:Nat):Int):=by rw[LE.aQ];show ((ρ.up s.nx _ s.nx).nn:Int)=_;rw[p4];rfl
      generalize hρ':ρ.up s.nx (.n ((f.ev ρ).toNat-1))=ρ' at p2 p3 p4 hx;have hl:=dB h;unfold SS.ok at hl;simp only[za,zb]at hl;have hlo:=hl.2.1 _ (r2.mem_iff.2 (by simp:SO.ms y' xv cc g f q∈osA++[.ms y' xv cc g f q]));have eo:=SO.bG p2 hlo;simp only[SO.den,Own.ms.injEq,true_and]at eo;have en:(ρ' y').nn=(ρ y').nn:=eo.1;have ev:(ρ' xv).vv=(ρ xv).vv:=eo.2.1;have ek:(SV.v false [uu]).den ρ'=(SV.v false [uu]).den ρ:=SC.bG p2 c4
      have hok:=JB (s:=aC s) (f':=.a (.n s.nx)) (k:=.v false [uu]) p3 r2 (by rw[en];exact o6) (by rw[ek];exact hkf) fun fs mb' h1 h2 h3 h4=>by
       rw[ev]at h1;rw[one h1 h3,hx,ek];have:jk es es'<=(f.ev ρ).toNat:=o8;omega
      rw[en,ek]at hok;exact gm.ux hg hd ho hu hMt hm hkk hv hkf (wK (.v true []) ρ) o6 hk' ⟨rfl,rfl,Γ,ρ',_,p1,p2,zan _,hok.jR (by rw[hx,LE.aO,LE.bG p2 c3];omega)⟩
     |false =>
      rw[hc]at h;simp only[cond_false]at h
      have hk2:∀p∈es,cK .str p.1:=fun p hp=>by
       obtain⟨_,es2,e1,_,m1,m2⟩:=hk.q.ht.b _ _ o4;have e:es2=es:=by rw[o5]at e1;cases e1;rfl
       subst e;have:=m1 p hp;rw[hpk]at this;exact this
      have hok:=JB (f':=f) (k:=.v false [uu]) hk r2 o6 hkf fun fs mb' h1 h2 h3 h4=>by
       rw[one h1 h3]at h4 ⊢;exact zam (rP hkf hk' hk2) h4
      exact gm.ux hg hd ho hu hMt hm hkk hv hkf (wK (.v true []) ρ) o6 hk' ⟨rfl,rfl,Γ,ρ,_,h,cM.refl _ _,zad _,hok⟩
   ·cases h
  ·exact Jf ho hg hd hP hΦ hK h hk hm hkk hv
 ·exact Jf ho hg hd hP hΦ hK h hk hm hkk hv
theorem LL {g:Nat}{x:SC}{K:SS->R}(h:(PV g x s K).Ok)(hk:Ok c T G Γ ρ s):Ac c T G Γ s ρ K:=by
 unfold PV at h;split at h
 ·rename_i dd hgd;cases hb:(x.lt s.nx&&Nat.blt dd s.nx)with
  |false=>rw[hb]at h;cases h
  |true =>
   rw[hb]at h;simp only[cond_true]at h;rw[za]at hb;obtain⟨h1,h2⟩:=R.gp h;cases ha:po (ρ dd).gg (x.den ρ)with
   |none=>exact⟨G,Γ,ρ,_,sZ.refl _,h1,cM.refl _ _,zad _,hk.gk (.inr ⟨by show (LE.k (-1)).ev ρ<0;rw[LE.bz];decide,ha⟩)⟩
   |some j =>
    obtain⟨f1,f2,f3,f4⟩:=aA h2 hk (.n j);have hx:(LE.a (.n s.nx)).ev (ρ.up s.nx (.n j))=j:=by rw[LE.aQ];show ((ρ.up s.nx _ s.nx).nn:Int)=_;rw[f4];rfl
    refine⟨G,Γ,_,_,sZ.refl _,f1,f2,zan _,f3.gk (.inl ⟨?_,?_⟩)⟩
    ·show 0<=(LE.a (.n s.nx)).ev _;rw[hx];omega
    ·show po (ρ.up s.nx (.n j) dd).gg (x.den _)=some ((LE.a (.n s.nx)).ev _).toNat;rw[hx,f2 dd (av hb.2),SC.bG f2 hb.1,ha];rfl
 ·cases h
theorem Dk {g:Nat}{at_ e:LE}{x:SC}{K:SS->R}(h:(yQ g at_ e x s K).Ok)(hk:Ok c T G Γ ρ s):Ac c T G Γ s ρ K:=by
 unfold yQ at h;split at h
 ·rename_i dd hgw;cases hb:(bo s e&&(e.lt s.nx&&(Nat.blt dd s.nx&&(bJ s.nx g&&(at_.lt s.nx&&(bo s (at_.sub (.a (.gn dd 2)))&&((iT x).isSome&&(x.lt s.nx&&pr s g))))))))with
  |false=>rw[hb]at h;cases h
  |true =>
   rw[hb]at h;simp only[cond_true]at h;simp only[za]at hb;obtain⟨b1,b2,b3,b4,b5,b6,b7,b8,b9⟩:=hb;obtain⟨sq,hsq⟩:=Option.isSome_iff_exists.1 b7;obtain⟨xl,xn,hxe,_⟩:=eW hsq ρ;have hxl:=jC b7 hxe;have e1:=ax b1 hk.sat;have e6:=ax b6 hk.sat;rw[LE.aw,LE.aQ]at e6;have e6:0<=at_.ev ρ-(((ρ dd).gg.n 2:Nat):Int):=e6;obtain⟨m,hm⟩:∃m:Nat,at_.ev ρ=(m:Int):=⟨(at_.ev ρ).toNat,by omega⟩;have hmn:(ρ dd).gg.n 2<=m:=by omega
   have hfz:(ρ dd).gg.fz=false:=by
    obtain⟨_,_,g3⟩:=hk.q.gs (ig ρ g,(ρ dd).gg,true) (List.mem_map.2 ⟨(g,dd,true),fQ hgw,rfl⟩);exact (g3 rfl).2.1
   have hnn:∀j,(ρ dd).gg.n j<=bif Nat.beq j 2 then m+1 else (ρ dd).gg.n j:=fun j=>by
    cases hj:Nat.beq j 2 with
    |true=>rw[ai hj];exact Nat.le_succ_of_le hmn
    |false=>exact zad _
   obtain⟨dn,hdn1,hdn2,hdn3,hdn4,hdn5,hdn6,hle⟩:∃dn:Gd,dn.n=(fun j=>bif Nat.beq j 2 then m+1 else (ρ dd).gg.n j)/\dn.at_=(ρ dd).gg.at_/\dn.fz=false/\dn.wn m=some (e.ev ρ).toNat/\(∀j q,(ρ dd).gg.wn j=some q->dn.wn j=some q)/\dn.nm m=some (xl,xn)/\(ρ dd).gg.Le dn:=by
    have hne:∀j q,(ρ dd).gg.wn j=some q->Nat.beq j m=false:=fun j q hq=>by
     cases hj:Nat.beq j m with
     |false=>rfl
     |true=>rw[ai hj,(ρ dd).gg.ww _ hmn]at hq;cases hq
    have hne2:∀j q,(ρ dd).gg.nm j=some q->Nat.beq j m=false:=fun j q hq=>by
     cases hj:Nat.beq j m with
     |false=>rfl
     |true=>rw[ai hj,(ρ dd).gg.wm _ hmn]at hq;cases hq
    refine⟨⟨fun j=>bif Nat.beq j 2 then m+1 else (ρ dd).gg.n j,(ρ dd).gg.at_,(ρ dd).gg.fl,false,(ρ dd).gg.sub,fun j=>bif Nat.beq j m then some (e.ev ρ).toNat else (ρ dd).gg.wn j,fun j hj=>?_,fun j=>bif Nat.beq j m then some (xl,xn)else (ρ dd).gg.nm j,fun j hj=>?_⟩,rfl,rfl,rfl,?_,fun j q hq=>?_,?_,hnn,fun _ _ _ h=>h,fun h=>(by rw[hfz]at h;cases h),rfl,fun j q hq=>?_,fun j q hq=>?_⟩
    ·have hj:m+1<=j:=hj;show (bif Nat.beq j m then some (e.ev ρ).toNat else (ρ dd).gg.wn j)=none;cases hc:Nat.beq j m with
     |true=>have:=ai hc;omega
     |false=>exact (ρ dd).gg.ww j (by omega)
    ·have hj:m+1<=j:=hj;show (bif Nat.beq j m then some (xl,xn)else (ρ dd).gg.nm j)=none;cases hc:Nat.beq j m with
     |true=>have:=ai hc;omega
     |false=>exact (ρ dd).gg.wm j (by omega)
    ·show (bif Nat.beq _ _ then _ else _)=_;rw[zcf];rfl
    ·show (bif Nat.beq j _ then _ else _)=_;rw[hne j q hq];exact hq
    ·show (bif Nat.beq _ _ then _ else _)=_;rw[zcf];rfl
    ·show (bif Nat.beq j _ then _ else _)=_;rw[hne j q hq];exact hq
    ·show (bif Nat.beq j _ then _ else _)=_;rw[hne2 j q hq];exact hq
   obtain⟨ρ1,p1,p2,p3,p4,p5⟩:=uT (dn:=dn) (w:=true) hgw hle (fun _=>hdn3) hdn2 b3 b4 h hk;have hdd:=p2 dd (av b3)
   have hn2:(((ρ1 s.nx).gg.n 2:Nat):Int)=at_.ev ρ1+1:=by
    rw[p3,LE.bG p2 b5,hm,hdn1];show ((m+1:Nat):Int)=_;omega
   have ok0:=p5 (PX s dd s.nx) [] [] (fun p hp=>by
    obtain⟨q,h1,rfl⟩:=List.mem_map.1 hp;obtain⟨h2,h3⟩:=List.mem_filter.1 h1;rw[za]at h3;have ed:=ai h3.1;have:=p4.ats q h2;unfold Kc at this ⊢;rw[ed,hdd]at this;rcases this with ⟨a1,a2⟩|⟨a1,a2⟩
    ·refine .inl ⟨a1,?_⟩;show po (ρ1 s.nx).gg _=_;rw[p3];exact C5 hle a2
    ·rw[zar]at h3;rcases h3.2 with h4|h4
     ·refine .inr ⟨a1,?_⟩;show po (ρ1 s.nx).gg _=_;rw[p3]
      have hstr:∃l m,q.2.1.den ρ1=.str l m:=by
       generalize q.2.1=x at h4;cases x<;>first|(cases h4;done)|exact⟨_,_,rfl⟩|skip
      obtain⟨l,m,ek⟩:=hstr;rw[ek]at a2 ⊢;show dn.at_ l m=none;rw[hdn2];exact a2
     ·have:=yd (s:=s) (fun f hf=>p4.fs f hf) h4
      omega) (fun p hp=>by cases hp) (fun d hd=>by cases hd)
   have ok1:=(uS (ks:=[0,1,3,4,5]) (dd:=dd) (dn:=s.nx) ok0 (fun k hk5=>by
    rw[p3,hdd,hdn1];simp only[List.mem_cons,List.not_mem_nil,or_false]at hk5;have h5:Nat.beq k 2=false:=by rcases hk5 with h|h|h|h|h<;>(rw[h];rfl)
    show (bif Nat.beq k 2 then _ else _)=_
    rw[h5];rfl)).jR (a:=.a (.gn s.nx 2)) (b:=at_.bk 1) (by rw[LE.aO,LE.aQ];exact hn2)
   obtain⟨hw1,hw2⟩:=IC (e.ev ρ).toNat;obtain⟨q1,q2,q3,q4⟩:=aA p1 ok1 (.v .ab (wL (e.ev ρ).toNat))
   have J9:∀{l},(jR (Bi (pC (aC s) g s.nx true s.os (PX s dd s.nx) [] [] (mj s.sb dd s.nx)) dd s.nx l) (.a (.gn s.nx 2)) (at_.bk 1)).nx=s.nx+1:=by
    intro l;show (Bi _ _ _ _).nx=_;rw[yI];rfl
   rw[J9]at q1 q2 q3 q4;generalize hρ2:ρ1.up (s.nx+1) (.v .ab (wL (e.ev ρ).toNat))=ρ2 at q2 q3 q4;have hns:(ρ2 (s.nx+1)).ns=wL (e.ev ρ).toNat:=by rw[q4];exact U.iw hw2
   have A:cM s.nx ρ ρ2:=p2.trans q2 (zan _)
   have hwt:(LE.a (.wt (s.nx+1))).ev ρ2=((e.ev ρ).toNat:Int):=by
    rw[LE.aQ];show ((((ρ2 (s.nx+1)).ns.sum+(ρ2 (s.nx+1)).ns.length:Nat)):Int)=_;rw[hns,hw1]
   have q3s:∀s1:SS,Ok c T G (gr Γ (ig ρ g) dn Γ.ng) ρ2 s1->Ok c T G (gr Γ (ig ρ g) dn Γ.ng) ρ2 (aY s1 (.sj g at_ x)):=fun s1 q=>⟨⟨q.sat.fs,q.sat.bs,q.sat.pw,q.sat.ats,q.sat.cU,q.sat.ne,q.sat.fz,q.sat.sb⟩,⟨q.q.ml,q.q.at_,q.q.uB,q.q.rl,q.q.grow,q.q.own,q.q.new,q.q.nd,q.q.ht,fun f hf=>by
    rcases List.mem_cons.1 hf with rfl|hf
    ·refine⟨by show ig ρ2 g<Γ.ng;rw[ba A b4];exact gJ b9 hk,xl,xn,by rw[SC.bG A b8];exact hxe,hxl,?_⟩;show ((gr Γ (ig ρ g) dn Γ.ng).gd (ig ρ2 g)).nm (at_.ev ρ2).toNat=_;rw[ba A b4,eZ,LE.bG A b5,hm];exact hdn6
    ·exact q.q.ty f hf,q.q.gs⟩⟩
   refine⟨G,_,ρ2,_,sZ.refl _,q1,A,?_,Ok.jR (Ok.gk (q3s _ q3) (.inl ⟨?_,?_⟩)) ?_⟩
   ·show s.nx<=(jR (Bi _ _ _ _) _ _).nx+1;rw[J9];omega
   ·show 0<=(LE.a (.wt (s.nx+1))).ev ρ2;rw[hwt];omega
   ·show po (ρ2 s.nx).gg (AV.int .i64 (at_.ev ρ2))=some ((LE.a (.wt (s.nx+1))).ev ρ2).toNat;rw[hwt,q2 s.nx (zdc _),p3,LE.bG A b5,hm];exact hdn4
   ·rw[hwt,LE.bG A b2];omega
 ·cases h
end
end Go.Rd
namespace Go.Rd
open Go.aI Go.RowKit Go.Rt
def uZ (s:SS):List Operand->Option (List SC)
 | []=>some []
 |x::xs=>(match GX s x,uZ s xs with|some (.v false [y]),some l=>some (y::l)|_,_=>none)
def Bq (cf:Cf)(o:Op)(s:SS)(K:SV->SS->R):R:=match o with
 |.lookup t x y ok=>wv s x fun v=>wv s y fun u=>PT cf t v u ok s K
 |.makeFunc (.func f) fs gs=>(match uZ s fs.toList,uZ s gs.toList with|some bs,some cs=>K (.ve f bs cs) s|_,_=>.bad 282 s)
 |o=>Pu cf o s K
section
variable {c:Cx}{T:Tm}{G:GH}{Γ:dy}{ρ ρ':aZ}{s s':SS}{cf:Cf}{ops:Array Oper}{i d:Nat}
theorem rQ (hq:Q c T G Γ (s.den ρ)):∀{xs:List Operand}{l:List SC},uZ s xs=some l->F4 c.nt T xs (aB ρ l)
 | [],l,h=>by cases h;trivial
 |x::xs,l,h=>by
  unfold uZ at h;split at h
  ·rename_i y l' h1 h2;cases h;exact⟨pq h1 hq,rQ hq h2⟩
  ·cases h
theorem tw {K:SV->SS->R}(hg:(af ops i).guard=none)(hP:cf.P=c.P)(hΦ:cf.Φ=c.Φ)(hK:eX cf)(h:(Bq cf (af ops i).op s K).Ok)(hk:Ok c T G Γ ρ s):Lo c T G Γ ops i s ρ K:=by
 unfold Bq at h;split at h
 ·rename_i ho;obtain⟨v,h,_,e⟩:=cn h hk;obtain⟨u,h,_,e'⟩:=cn h hk;exact LJ ho hg hP hΦ hK h hk e e'
 ·rename_i f fs gs ho;split at h
  ·rename_i bs cs h1 h2;exact Lo.here hk h (bq.Ua hg ho (rQ hk.q h1) (rQ hk.q h2))
  ·cases h
 ·exact Ls hg hP hΦ hK h hk
def JC (cf:Cf)(ops:Array Oper)(i:Nat)(s:SS)(K:SV->SS->R):R:=match (af ops i).guard with
 |none=>Bq cf (af ops i).op s K
 |some (g,b)=>(match (af ops g).dst with
  |some dg=>(match uI s.L dg with
   |some (.v false [.bool be])=>split s be (fun s=>bif b then Bq cf (af ops i).op s K else K .undef s) (fun s=>bif b then K .undef s else Bq cf (af ops i).op s K)
   |some .undef=>K .undef s
   |_=>.bad 13 s)
  |none=>.bad 14 s)
theorem EB {K:SV->SS->R}(hP:cf.P=c.P)(hΦ:cf.Φ=c.Φ)(hK:eX cf)(h:(JC cf ops i s K).Ok)(hk:Ok c T G Γ ρ s):Lo c T G Γ ops i s ρ K:=by
 unfold JC at h;split at h
 ·rename_i hg;exact tw hg hP hΦ hK h hk
 ·rename_i g b hg;split at h
  ·rename_i dg hdg;split at h
   ·rename_i be hl;have hT:T.at dg=.bool (be.ev ρ):=hk.q.at_ _ _ (gD hl)
    have run:∀s1,s1.nx=s.nx->Ok c T G Γ ρ s1->be.ev ρ=b->(Bq cf (af ops i).op s1 K).Ok->Lo c T G Γ ops i s ρ K:=fun s1 n1 o1 e1 h1=>by
     rw[e1]at hT;refine Lo.to n1 (Lo.map (ops':=yb ops) (tw (wP ops i) hP hΦ hK (by rw[IU];exact h1) o1) fun v hv=>CC hg hdg hT hv)
    have idle:∀s1,s1.nx=s.nx->Ok c T G Γ ρ s1->be.ev ρ≠b->(K .undef s1).Ok->Lo c T G Γ ops i s ρ K:=fun s1 n1 o1 e1 h1 =>
     Lo.to n1 (Lo.here o1 h1 (uE hg hdg hT e1))
    obtain⟨s1,n1,_,o1,h1|h1⟩:=nJ h hk
    ·obtain⟨e1,h1⟩:=h1;cases b with
     |true=>exact run s1 n1 o1 e1 h1
     |false=>exact idle s1 n1 o1 (by rw[e1];decide) h1
    ·obtain⟨e1,h1⟩:=h1;cases b with
     |true=>exact idle s1 n1 o1 (by rw[e1];decide) h1
     |false=>exact run s1 n1 o1 e1 h1
   ·rename_i hl;exact Lo.here hk h (uF hg hdg (hk.q.at_ _ _ (gD hl)))
   ·cases h
  ·cases h
end
end Go.Rd
namespace Go.Rd
open Go.aI Go.RowKit Go.Rt
def Vz (e:LE):Bool:=e.same (.k 0)
def PY (cf:Cf)(t:TypeId)(d:Nat)(v u:SV)(an:An)(s:SS)(K:SS->R):R:=match v,u,an with
 |.v false [.int k e0],.v false [.int k' e],.ty cc g=>bif Vz e0 then (match cf.P.underlying t with
  |some (.slice el)=>bif eE k&&(eE k'&&(bo s e&&(bo s ((LE.k 16777216).sub e)&&e.lt s.nx)))then
   (match ((zeroOf cf.P el).bind sW).bind dN with
    |some z=>bif Nat.beq z.length (ae cf.P el)&&(Nat.ble (ae cf.P el) 1000&&(Nat.blt 0 (ae cf.P el)&&Nat.ble (cf.P.bytesOf el) 1000000))then
     bif Nat.beq (cf.Φ.ty cc) el&&(cf.Φ.gv cc&&(pr s g&&(bJ s.nx g&&((cf.Φ.ks cc).all Ps&&!cf.Φ.raw cc))))then
      (match pA cf s g (ghost s.gs g) (.k 0) (cf.Φ.ks cc) z with
       |some os=>bif bo s ((LE.k WU).sub (iG os))then fresh s fun x s=>K (fZ (jR (aY s (.sl x cc g)) (.a (.len x)) (.k 0)) d (sc (.ref x)))else .bad 184 s
       |none=>.bad 185 s)
     else .bad 186 s
     else .bad 189 s
    |none=>.bad 190 s)
   else .bad 191 s
  |_=>.bad 192 s)else HW cf t d v u an s K
 |_,_,_=>HW cf t d v u an s K
def GI (Φ:Forms):List K2->Option Nat
 | []=>none
 |.mp cc::l=>bif Φ.im cc&&(!Φ.via cc&&Φ.dep cc)then some cc else GI Φ l
 |_::l=>GI Φ l
def JE (cf:Cf)(b y:Nat)(s:SS)(Kt:SS->R):R:=match pB (RQ b) s.os,pI s.ty y with
 |some (_,osA),some (c0,g)=>(match GI cf.Φ (cf.Φ.ks c0)with
  |some cc=>(match cf.Φ.mv cc,ghost s.gs g with
   |.F5 _,some d=>bif Nat.blt b s.nx&&(bJ s.nx g&&Nat.blt d s.nx)then
    fresh s fun x s=>fresh (aY s (.mp x cc g)) fun n s=>Kt (aP (dm s (osA++[.ms b x cc g (.a (.n n)) none])) ((LE.a (.gn d 5)).sub (.a (.n n))))
    else .bad 294 s
   |_,_=>.bad 295 s)
  |none=>.bad 295 s)
 |_,_=>.bad 296 s
section
variable {c:Cx}{T:Tm}{G:GH}{Γ:dy}{ρ ρ':aZ}{s s':SS}{cf:Cf}{ops:Array Oper}{i d:Nat}
theorem LM {t:TypeId}{yl yc:Operand}{v u:SV}{an:An}{K:SS->R}(ho:(af ops i).op=.makeSlice t yl yc)(hg:(af ops i).guard=none)(hd:(af ops i).dst=some d)(hlt:d<c.nt)(hP:cf.P=c.P)(hΦ:cf.Φ=c.Φ)(h:(PY cf t d v u an s K).Ok)(hk:Ok c T G Γ ρ s)(hv:bH c.nt T yl (v.den ρ))(hu:bH c.nt T yc (u.den ρ)):Hv c T G Γ ops i s ρ K:=by
 unfold PY at h;split at h
 ·rename_i k e0 k' e cc g;cases hz0:Vz e0 with
  |false=>rw[hz0]at h;simp only[cond_false]at h;exact Je ho hg hd hlt hP hΦ h hk hv hu
  |true =>
   rw[hz0]at h;simp only[cond_true]at h;rw[hP,hΦ]at h;split at h
   ·rename_i el hun;cases hb:(eE k&&(eE k'&&(bo s e&&(bo s ((LE.k 16777216).sub e)&&e.lt s.nx))))with
    |false=>rw[hb]at h;cases h
    |true =>
     rw[hb]at h;simp only[cond_true]at h;simp only[za]at hb;obtain⟨b1,b2,b4,b5,b6⟩:=hb;have b1:=dT b1;have b2:=dT b2;subst b1 b2;have e1:=ax b4 hk.sat;have e2:=ax b5 hk.sat;rw[LE.aw,LE.bz]at e2;have e3:=LE.aN hz0 ρ;rw[LE.bz]at e3
     have hv:bH c.nt T yl (.int .i64 (.ofNat 0)):=by
      have:(SV.v false [.int .i64 e0]).den ρ=.int .i64 (.ofNat 0):=by show AV.int .i64 (e0.ev ρ)=_;rw[e3];rfl
      rw[<-this];exact hv
     have hu:bH c.nt T yc (.int .i64 (.ofNat (e.ev ρ).toNat)):=by
      have:(SV.v false [.int .i64 e]).den ρ=.int .i64 (.ofNat (e.ev ρ).toNat):=by show AV.int .i64 (e.ev ρ)=_;congr 1;exact (zbp e1).symm
      rw[<-this];exact hu
     split at h
     ·rename_i z hz;cases hzz:zeroOf c.P el with
      |none=>rw[hzz]at hz;cases hz
      |some zz =>
       rw[hzz]at hz;simp only[zcb]at hz;cases hv0:sW zz with
       |none=>rw[hv0]at hz;cases hz
       |some w =>
        rw[hv0]at hz;have hz:dN w=some z:=hz;have z1:zz.cells=aB ρ z:=by rw[<-jc hv0 ρ];exact fy hz ρ
        have z1l:zz.cells.length=z.length:=by rw[z1];simp[aB]
        cases hb7:(Nat.beq z.length (ae c.P el)&&(Nat.ble (ae c.P el) 1000&&(Nat.blt 0 (ae c.P el)&&Nat.ble (c.P.bytesOf el) 1000000)))with
        |false=>rw[hb7]at h;cases h
        |true =>
         rw[hb7]at h;simp only[cond_true]at h;have hgz:(Nat.beq zz.cells.length (ae c.P el)&&(Nat.ble (ae c.P el) 1000&&(Nat.blt 0 (ae c.P el)&&Nat.ble (c.P.bytesOf el) 1000000)))=true:=by rw[z1l];exact hb7
         have hzl:zz.cells.length=ae c.P el:=by rw[z1l];simp only[za]at hb7;exact ai hb7.1
         have hlim:(e.ev ρ).toNat<=jB:=by unfold jB;omega
         have hrl:(fS (e.ev ρ).toNat zz.cells).length=(e.ev ρ).toNat*ae c.P el:=by rw[fN,hzl]
         cases hb8:(Nat.beq (c.Φ.ty cc) el&&(c.Φ.gv cc&&(pr s g&&(bJ s.nx g&&((c.Φ.ks cc).all Ps&&!c.Φ.raw cc)))))with
         |false=>rw[hb8]at h;cases h
         |true =>
          rw[hb8]at h;simp only[cond_true]at h;simp only[za,zaj]at hb8;obtain⟨d1,d2,d3,d4,d5,hrw⟩:=hb8;have d1:=ai d1;subst d1;cases hch:pA cf s g (ghost s.gs g) (.k 0) (c.Φ.ks cc) z with
          |none=>rw[hch]at h;cases h
          |some os =>
           rw[hch]at h;simp only at h;cases hw:bo s ((LE.k WU).sub (iG os))with
           |false=>rw[hw]at h;cases h
           |true =>
            rw[hw]at h;simp only[cond_true]at h;obtain⟨fs,w1,w2,w3⟩:=mh hΦ hk (fun dv h=>cR h hk) (J:=0) (by rw[LE.bz];exact⟨zch _,rfl⟩) hch;have hwu:=ax hw hk.sat;rw[LE.aw,LE.bz,w2]at hwu;rw[<-z1]at w1;refine gm.Ja hg hd hlt ho hun hzz hgz hv hu (zbl _) (by omega) (by rw[z1];exact fp _ _) fun b hb hb'=>⟨rfl,rfl,?_⟩
            have hq:=hk.q.Ln (cc:=cc) (g:=ig ρ g) (L:=List.replicate (e.ev ρ).toNat WU) (size:=(e.ev ρ).toNat*ae c.P (c.Φ.ty cc)) (C:=fS (e.ev ρ).toNat zz.cells) (tys':=[.sl (.cN b 0 0 (e.ev ρ).toNat) cc (ig ρ g) []]) hb hb' (gJ d3 hk) hrw (fun _ m hm=>zbs hm) (by rw[hrl,zai]) (fun j m hj=>by
              have hm:=zbs (zba hj);have hjl:=(List.getElem?_eq_some_iff.1 hj).1;rw[zai]at hjl;rw[Bh hzl hjl,hm];exact⟨fs,n6 d5 w1,by omega,w3⟩) (fun f hf=>by
              rw[List.mem_singleton.1 hf]
              exact⟨zbl _,.inr (.inr ⟨b,(e.ev ρ).toNat,_,_,_,rfl,updΓ_same _ _ _,rfl,au _ _ _,zad _,zbl _⟩)⟩)
            obtain⟨r1,r2,r3,r4⟩:=aA h hk (.v (.cN b 0 0 (e.ev ρ).toNat) []);generalize hU:U.v (.cN b 0 0 (e.ev ρ).toNat) []=uu at r1 r2 r3 r4;have hv':(ρ.up s.nx uu s.nx).vv=.cN b 0 0 (e.ev ρ).toNat:=by rw[r4,<-hU];rfl
            have hn':(ρ.up s.nx uu s.nx).ns=[]:=by rw[r4,<-hU];rfl
            have eD:=(SS.bG (dB h) r2).1;refine⟨updΓ Γ b (.cells cc (ig ρ g) (List.replicate (e.ev ρ).toNat WU)),ρ.up s.nx uu,_,r1,r2,zan _,?_⟩
            have ok1:Ok c T (dj G b (.cells .data (c.Φ.ty cc) ((e.ev ρ).toNat*ae c.P (c.Φ.ty cc)) (fS (e.ev ρ).toNat zz.cells))) (updΓ Γ b (.cells cc (ig ρ g) (List.replicate (e.ev ρ).toNat WU))) (ρ.up s.nx uu) (aY (aC s) (.sl s.nx cc g)):=⟨⟨r3.sat.fs,r3.sat.bs,r3.sat.pw,r3.sat.ats,r3.sat.cU,r3.sat.ne,r3.sat.fz,r3.sat.sb⟩,by
             have:(aY (aC s) (.sl s.nx cc g)).den (ρ.up s.nx uu)=⟨(s.den ρ).L,(s.den ρ).os,.sl (.cN b 0 0 (e.ev ρ).toNat) cc (ig ρ g) []::(s.den ρ).dQ,(s.den ρ).gs⟩:=by
              refine St.ext' (by have:=congrArg St.L eD;exact this) (by have:=congrArg St.os eD;exact this) ?_ (by have:=congrArg St.gs eD;exact this);show c6.den _ (.sl s.nx cc g)::s.ty.map (c6.den _)=_;rw[show s.ty.map (c6.den (ρ.up s.nx uu))=(s.den ρ).dQ from congrArg St.dQ eD];simp only[c6.den];rw[hv',hn',ba r2 d4]
             rw[this];exact hq⟩
            have:=(ok1.jR (a:=.a (.len s.nx)) (b:=.k 0) (by
             rw[LE.aQ,LE.bz];show (((ρ.up s.nx uu s.nx).ns.length:Nat):Int)=_
             rw[hn'];rfl)).put (v:=sc (.ref s.nx)) d
            rw[show (sc (.ref s.nx)).den (ρ.up s.nx uu)=.cN b 0 0 (e.ev ρ).toNat from hv']at this;exact this
     ·cases h
   ·cases h
 ·exact Je ho hg hd hlt hP hΦ h hk hv hu
theorem EC {Φ:Forms}{dd:Gd}{g j:Nat}{k:K2}:∀{ks:List K2}{cs:List AV}{fs:List TF},ia Φ dd g j ks cs fs->k∈ks->∃v f,Kv Φ dd g j k v f/\∀x∈f,x∈fs
 | [],cs,fs,h,hk=>by cases hk
 |k0::ks,cs,fs,h,hk=>by
  obtain⟨v,cs',f1,f2,rfl,rfl,h1,h2⟩:=h;rcases List.mem_cons.1 hk with rfl|hk
  ·exact⟨v,f1,h1,fun x hx=>zbo _ hx⟩
  ·obtain⟨v',f,h3,h4⟩:=EC h2 hk;exact⟨v',f,h3,fun x hx=>zbt _ (h4 x hx)⟩
theorem ED {Φ:Forms}:∀{ks:List K2}{cc:Nat},GI Φ ks=some cc->K2.mp cc∈ks/\Φ.im cc=true/\Φ.via cc=false/\Φ.dep cc=true
 | [],_,h=>by cases h
 |k::l,cc,h=>by
  have go:GI Φ l=some cc->K2.mp cc∈k::l/\Φ.im cc=true/\Φ.via cc=false/\Φ.dep cc=true:=fun h=>by
   obtain⟨h1,h2⟩:=ED h;exact⟨zaa _ h1,h2⟩
  cases k<;>try exact go h
  rename_i c1;have h:(bif Φ.im c1&&(!Φ.via c1&&Φ.dep c1)then some c1 else GI Φ l)=some cc:=h;cases hb:(Φ.im c1&&(!Φ.via c1&&Φ.dep c1))with
  |false=>rw[hb]at h;exact go h
  |true =>
   rw[hb]at h;cases h;simp only[za,zaj]at hb;exact⟨zac ..,hb.1,hb.2.1,hb.2.2⟩
theorem JF {b y:Nat}{Kt:SS->R}(hΦ:cf.Φ=c.Φ)(h:(JE cf b y s Kt).Ok)(hk:Ok c T G Γ ρ s):Ac c T G Γ s ρ Kt:=by
 unfold JE at h;split at h
 ·rename_i o osA c0 g hr hf;obtain⟨r1,r2⟩:=gj hr
  obtain rfl:o=.em b .str:=by
   cases o<;>first|(cases r1;done)|skip
   rename_i y' pk;have r1:(Nat.beq y' b&&F7 pk .str)=true:=r1;rw[za]at r1;have:=ai r1.1;have:=pj r1.2
   subst_vars
   rfl
  rw[hΦ]at h;split at h
  ·rename_i cc hmp;obtain⟨k1,k2,k3,k4⟩:=ED hmp;split at h
   ·rename_i bb dd hmv hgd;cases hb:(Nat.blt b s.nx&&(bJ s.nx g&&Nat.blt dd s.nx))with
    |false=>rw[hb]at h;cases h
    |true =>
     rw[hb]at h;simp only[cond_true]at h;simp only[za]at hb;obtain⟨b2,b4,b5⟩:=hb;obtain⟨b0,L,m0,size,C,q1,q2,q3,q4,q5,q6,q7⟩:=(hk.ty (iN hf)).deref hk.q.ht;obtain⟨fs,w1,w2,w3⟩:=q7;obtain⟨vm,ff,kv,kf⟩:=EC w1 k1;have kv:ff=[.mp vm cc (gi c.Φ (Γ.gd (ig ρ g)) (ig ρ g) cc)]:=kv;have hgi:gi c.Φ (Γ.gd (ig ρ g)) (ig ρ g) cc=ig ρ g:=by unfold gi;rw[k3,k4];rfl
     rw[hgi]at kv;obtain⟨mb,u1,u2⟩:=w3 _ (kf _ (by rw[kv];exact zaz _));obtain⟨_,es,e1,e2,m1,m2⟩:=hk.q.ht.b _ _ u2;rw[hmv]at m2;have hlen:=m2.1;rw[cR hgd hk]at hlen;obtain⟨p1,p2,p3,p4⟩:=aA h hk (.v (.cV mb) []);have hvx:(ρ.up s.nx (.v (.cV mb) []) s.nx).vv=.cV mb:=by rw[p4];rfl
     generalize hρ1:ρ.up s.nx (.v (.cV mb) [])=ρ1 at p2 p3 p4 hvx
     have okT:Ok c T G Γ ρ1 (aY (aC s) (.mp s.nx cc g)):=⟨⟨p3.sat.fs,p3.sat.bs,p3.sat.pw,p3.sat.ats,p3.sat.cU,p3.sat.ne,p3.sat.fz,p3.sat.sb⟩,⟨p3.q.ml,p3.q.at_,p3.q.uB,p3.q.rl,p3.q.grow,p3.q.own,p3.q.new,p3.q.nd,p3.q.ht,fun f hf=>by
      rcases List.mem_cons.1 hf with rfl|hf
      ·exact⟨mb,hvx,by rw[ba p2 b4];exact u2⟩
      ·exact p3.q.ty f hf,p3.q.gs⟩⟩
     obtain⟨h1,h2,h3,h4⟩:=aA p1 okT (.n es.length);have J9:(aY (aC s) (.mp s.nx cc g)).nx=s.nx+1:=rfl;rw[J9]at h1 h2 h3 h4;have hx:(LE.a (.n (s.nx+1))).ev (ρ1.up (s.nx+1) (.n es.length))=es.length:=by rw[LE.aQ];show ((ρ1.up (s.nx+1) _ (s.nx+1)).nn:Int)=_;rw[h4];rfl
     have A:cM s.nx ρ (ρ1.up (s.nx+1) (.n es.length)):=p2.trans h2 (zan _);have hok:=Ok.Vy (s:=aC (aY (aC s) (.mp s.nx cc g))) (o:=.em b .str) (o':=.ms b s.nx cc g (.a (.n (s.nx+1))) none) h3 r2 rfl fun⟨a1,a2,a3⟩=>⟨a2,k2,mb,es,[],by rw[h2 s.nx (zdc _)];exact hvx,by rw[ba A b4];exact u2,e1,a1,(fun p hp=>(by cases hp)),(by rw[GG,hx];simp),fun k hq=>(by cases hq)⟩;refine⟨G,Γ,_,_,sZ.refl _,h1,A,by show s.nx<=s.nx+1+1;omega,hok.aP ?_⟩;rw[LE.aw,hx,LE.aQ];show 0<=(((ρ1.up (s.nx+1) (.n es.length) dd).gg.n 5:Nat):Int)-es.length;rw[A dd (av b5)];omega
   ·cases h
  ·cases h
 ·cases h
end
end Go.Rd
namespace Go.Rd
open Go.aI Go.RowKit Go.Rt
def GJ (cf:Cf)(rk:Rk)(an:An)(o:Op)(d:Option Nat)(s:SS)(K:SS->R):R:=match o,d with
 |.alloc t,some d=>Ux cf t d s K
 |.box t x,some d=>wv s x fun v=>yz cf t v d s K
 |.buildSlice t len ps,some d=>UF cf t len ps.toList d an s K
 |.makeMap _ none,some d=>xC cf d an s K
 |.makeSlice t yl yc,some d=>wv s yl fun v=>wv s yc fun u=>PY cf t d v u an s K
 |.store t (.tmp x) y,none=>wv s (.tmp x) fun v=>wv s y fun u=>PF cf t v u s K
 |.mapUpdate t m k v,none=>wv s m fun a=>wv s k fun b=>wv s v fun e=>PU cf t a b e s K
 |.call cl,d=>(match cl.callee with
  |.builtin .append=>(match cl.args.toList,cl.argTypes.toList,d with
   | [ys,yx],[ts,tx],some d=>wv s ys fun v=>wv s yx fun u=>PE cf ts tx d v u an s K
   |_,_,_=>.bad 400 s)
  |.value f=>wv s f fun fv=>(match QF s cl.args.toList with|some vs=>kM cf rk fv vs d s K|none=>.bad 401 s)
  |_=>(match d with|some d=>Bq cf (.call cl) s fun v s=>K (fZ s d v)|none=>.bad 402 s))
 |o,some d=>Bq cf o s fun v s=>K (fZ s d v)
 |_,none=>.bad 403 s
def VA (nt:Nat):Option Nat->Bool|some d=>Nat.blt d nt|none=>true
def cX (cf:Cf)(rk:Rk)(an:An)(ops:Array Oper)(i:Nat)(s:SS)(K:SS->R):R:=bif VA cf.nt (af ops i).dst then (match (af ops i).guard with
 |none=>GJ cf rk an (af ops i).op (af ops i).dst s K
 |some (g,b)=>(match (af ops g).dst,(af ops i).dst with
  |some dg,some d=>(match uI s.L dg with
   |some (.v false [.bool be])=>split s be (fun s=>bif b then GJ cf rk an (af ops i).op (some d) s K else K (fZ s d .undef)) (fun s=>bif b then K (fZ s d .undef)else GJ cf rk an (af ops i).op (some d) s K)
   |some .undef=>K (fZ s d .undef)
   |_=>.bad 404 s)
  |_,_=>.bad 405 s))
 else .bad 406 s
section
variable {c:Cx}{T:Tm}{G G':GH}{Γ Γ':dy}{ρ ρ':aZ}{s0 s s':SS}{ops:Array Oper}{i d:Nat}{cf:Cf}{rk:Rk}
theorem EE {an:An}{K:SS->R}(hP:cf.P=c.P)(hΦ:cf.Φ=c.Φ)(hK:eX cf)(hR:jg c rk ρ)(hg:(af ops i).guard=none)(hlt:∀d,(af ops i).dst=some d->d<c.nt)(h:(GJ cf rk an (af ops i).op (af ops i).dst s K).Ok)(hk:Ok c T G Γ ρ s):Hv c T G Γ ops i s ρ K:=by
 unfold GJ at h;split at h
 ·rename_i ho hd;exact Pm ho hg hd (hlt _ hd) hP h hk
 ·rename_i ho hd;obtain⟨v,h,_,e⟩:=cn h hk;exact Pn ho hg hd (hlt _ hd) h hk e
 ·rename_i ho hd;exact PB ho hg hd (hlt _ hd) hP hΦ h hk
 ·rename_i ho hd;exact PC ho hg hd (hlt _ hd) hP hΦ h hk
 ·rename_i ho hd;obtain⟨v,h,_,e⟩:=cn h hk;obtain⟨u,h,_,e'⟩:=cn h hk;exact LM ho hg hd (hlt _ hd) hP hΦ h hk e e'
 ·rename_i ho hd;obtain⟨v,h,e0,e⟩:=cn h hk;obtain⟨u,h,_,e'⟩:=cn h hk;exact Lw ho hg hd hP hΦ h hk (gF e0 hk.q) e'
 ·rename_i ho hd;obtain⟨a,h,_,e1⟩:=cn h hk;obtain⟨b,h,_,e2⟩:=cn h hk;obtain⟨e,h,_,e3⟩:=cn h hk;exact LK ho hg hd hP hΦ hK h hk e1 e2 e3
 ·rename_i cl ho;split at h
  ·rename_i hcal;split at h
   ·rename_i h1 h2 hd;obtain⟨v,h,_,e⟩:=cn h hk;obtain⟨u,h,_,e'⟩:=cn h hk;exact Lv hg hd (hlt _ hd) ho hcal h2 h1 hP hΦ h hk e e'
   ·cases h
  ·rename_i f hcal;obtain⟨fv,h,_,e⟩:=cn h hk;split at h
   ·rename_i vs hvs;exact PR hΦ hR hg rfl hlt (by unfold ow;rw[ho];simp only;rw[hcal]) e hvs h hk
   ·cases h
  ·split at h
   ·rename_i d hd;rw[<-ho]at h;exact Lo.hv hd (hlt _ hd) (tw hg hP hΦ hK h hk)
   ·cases h
 ·rename_i d hd _ _ _ _ _ _
  first
   |exact Lo.hv ‹_› (hlt _ ‹_›) (tw hg hP hΦ hK h hk)
   |skip
 ·cases h
theorem jg.bG {n:Nat}(h:jg c rk ρ)(hm:rk.ur n=true)(ha:cM n ρ ρ'):jg c rk ρ':=by
 unfold Rk.ur at hm;rw[za]at hm;refine⟨fun sp hsp m hc=>h.sp sp hsp m (by rw[LE.bG ha hm.1]at hc;exact hc),fun q k hh hy=>?_⟩;obtain⟨ρ0,a0,y0⟩:=h.yh q k hh hy;have h2:=hm.2;rw[hy]at h2;have h2:=aK (show Nat.ble k n=true from h2);exact⟨ρ0,fun i hi=>(ha i (by omega)).trans (a0 i hi),y0⟩
theorem LE.EF {e:LE}{n m:Nat}(h:e.lt n=true)(hn:n<=m):e.lt m=true:=List.all_eq_true.2 fun p hp=>by
 have:=av (List.all_eq_true.1 h p hp);exact Eu (by omega)
theorem Rk.EF {rk:Rk}{n m:Nat}(h:rk.ur n=true)(hn:n<=m):rk.ur m=true:=by
 unfold Rk.ur at h ⊢;rw[za]at h ⊢;refine⟨LE.EF h.1 hn,?_⟩;have h2:=h.2;split at h2
 ·rename_i q k hh hy;exact zbv (zam (aK h2) hn)
 ·rfl
theorem Hv.to {K:SS->R}(hn:s'.nx=s.nx)(h:Hv c T G Γ ops i s' ρ K):Hv c T G Γ ops i s ρ K:=gm.mono h fun T' hp' nx' G' ⟨h1,h2,Γ',ρ',s2,h3,h4,h5,h6⟩=>⟨h1,h2,Γ',ρ',s2,h3,by rw[<-hn];exact h4,by omega,h6⟩
theorem JG {an:An}{K:SS->R}(hP:cf.P=c.P)(hΦ:cf.Φ=c.Φ)(hnt:cf.nt=c.nt)(hK:eX cf)(hR:jg c rk ρ)(h:(cX cf rk an ops i s K).Ok)(hk:Ok c T G Γ ρ s):Hv c T G Γ ops i s ρ K:=by
 unfold cX at h;cases hdi:VA cf.nt (af ops i).dst with
 |false=>rw[hdi]at h;cases h
 |true =>
  rw[hdi]at h;simp only[cond_true]at h
  have hlt:∀d,(af ops i).dst=some d->d<c.nt:=fun d hd=>by
   rw[hd,hnt]at hdi;exact av hdi
  split at h
  ·rename_i hg;exact EE hP hΦ hK hR hg hlt h hk
  ·rename_i g b hg;split at h
   ·rename_i dg d hdg hd;split at h
    ·rename_i be hl;have hT:T.at dg=.bool (be.ev ρ):=hk.q.at_ _ _ (gD hl)
     have run:∀s1,s1.nx=s.nx->Ok c T G Γ ρ s1->be.ev ρ=b->(GJ cf rk an (af ops i).op (some d) s1 K).Ok->Hv c T G Γ ops i s ρ K:=fun s1 n1 o1 e1 h1=>by
      rw[e1]at hT;have:=EE (ops:=yb ops) (i:=i) hP hΦ hK hR (wP ops i) (by rw[Ed];exact hlt) (by rw[IU,Ed,hd];exact h1) o1;exact Hv.to n1 (CD hg hdg hT this)
     have idle:∀s1,s1.nx=s.nx->Ok c T G Γ ρ s1->be.ev ρ≠b->(K (fZ s1 d .undef)).Ok->Hv c T G Γ ops i s ρ K:=fun s1 n1 o1 e1 h1 =>
      Hv.to n1 (Lo.hv hd (hlt d hd) (Lo.here o1 (v:=.undef) h1 (uE hg hdg hT e1)))
     obtain⟨s1,n1,_,o1,h1|h1⟩:=nJ h hk
     ·obtain⟨e1,h1⟩:=h1;cases b with
      |true=>exact run s1 n1 o1 e1 h1
      |false=>exact idle s1 n1 o1 (by rw[e1];decide) h1
     ·obtain⟨e1,h1⟩:=h1;cases b with
      |true=>exact idle s1 n1 o1 (by rw[e1];decide) h1
      |false=>exact run s1 n1 o1 e1 h1
    ·rename_i hl;exact Lo.hv hd (hlt d hd) (Lo.here hk (v:=.undef) h (uF hg hdg (hk.q.at_ _ _ (gD hl))))
    ·cases h
   ·cases h
def KR (c:Cx)(s:SS)(ρ:aZ)(K:Ex->SS->R)(e:Ex)(T:Tm)(hp:Tr AO)(nx:Pz)(G:GH):Prop:=hp=c.hp/\nx=c.nx/\∃Γ ρ' s',(K e s').Ok/\cM s.nx ρ ρ'/\s.nx<=s'.nx/\Ok c T G Γ ρ' s'
theorem KR.up {K:Ex->SS->R}{e:Ex}{hp:Tr AO}{nx:Pz}(ha:cM s.nx ρ ρ')(hn:s.nx<=s'.nx)(h:KR c s' ρ' K e T hp nx G):KR c s ρ K e T hp nx G:=by
 obtain⟨h1,h2,Γ,ρ2,s2,h3,h4,h5,h6⟩:=h;exact⟨h1,h2,Γ,ρ2,s2,h3,ha.trans h4 hn,by omega,h6⟩
def RR (cf:Cf)(rk:Rk)(an:Nat->An)(ops:Array Oper)(i:Nat)(m:Nat)(s:SS)(K:SS->R):R:=match m with
 |0=>K s
 |m+1=>cX cf rk (an i) ops i s fun s=>RR cf rk an ops (i+1) m s K
theorem JH {an:Nat->An}{K:Ex->SS->R}(hP:cf.P=c.P)(hΦ:cf.Φ=c.Φ)(hnt:cf.nt=c.nt)(hK:eX cf):∀{m i:Nat}{T:Tm}{G:GH}{Γ:dy}{ρ:aZ}{s:SS},i+m=ops.size->jg c rk ρ->rk.ur s.nx=true->(RR cf rk an ops i m s (K .eJ)).Ok->Ok c T G Γ ρ s->ld c.P c.n0 c.nt ops i m T c.hp c.nx G (KR c s ρ K)
 |0,i,T,G,Γ,ρ,s,_,_,_,h,hk=>H3 ⟨rfl,rfl,Γ,ρ,s,h,cM.refl _ _,zad _,hk⟩
 |m+1,i,T,G,Γ,ρ,s,hi,hR,hm,h,hk=>by
  have hh:=JG hP hΦ hnt hK hR (show (cX cf rk (an i) ops i s (fun s=>RR cf rk an ops (i+1) m s (K .eJ))).Ok from h) hk;refine KZ (by omega) (gm.mono hh fun T' hp' nx' G' ⟨e1,e2,Γ',ρ',s',h1,h2,h3,h4⟩=>?_);subst e1 e2;have:=JH (K:=K) hP hΦ hnt hK (by omega) (hR.bG hm h2) (Rk.EF hm h3) h1 h4;exact fun r B w0 w ι a hs Q hn=>this r B w0 w ι a hs Q fun e T2 hp2 nx2 G2 ι2 a2 w2 k1 k2=>hn e T2 hp2 nx2 G2 ι2 a2 w2 (KR.up h2 h3 k1) k2
end
end Go.Rd
namespace Go.aI
open Go.RowKit
section
variable {P:Program}{n0 nt:Nat}{T:Tm}{hp:Tr AO}{nx:Pz}{G:GH}{ops:Array Oper}{aF:List Nat}{f:Nat}{ce ch:List Nat}{K:Tm->Tr AO->Pz->GH->Prop}
theorem Br (hm:((H8 ops aF ce ch).isEmpty&&ce.all fun i=>aF.contains i)=true)(hne:wA ops aF ce ch≠[])(zM:∀h∈wA ops aF ce ch,gm P n0 nt ops h T hp nx G fun T' hp' nx' G' =>
      (∀i∈xX ops ce (h::ch),∀d,(af ops i).dst=some d->bq P ops n0 nt i T' hp' nx' G' (T'.at d))/\Ka P n0 nt ops aF f ce (h::ch) T' hp' nx' G' K):Ka P n0 nt ops aF (f+1) ce ch T hp nx G K:=by
 intro B w0 ι a w hs Z hz
 obtain⟨h,hh⟩:∃h,h∈wA ops aF ce ch:=by
  cases hc:wA ops aF ce ch with
  |nil=>exact absurd hc hne
  |cons h l=>exact⟨h,zac ..⟩
 rw[za,zb]at hm;obtain⟨hm,hce⟩:=hm;refine .inr ⟨fun i hi hlt hc hd=>?_,fun hall=>?_,fun g hlt hl hc hd=>?_⟩
 ·have:i∈H8 ops aF ce ch:=List.mem_filter.2 ⟨List.mem_range.2 hlt,by
    rw[AG (l:=ce++ch) (fun j hj=>List.mem_append.2 hj) hd]
    simp[hi,hc]⟩
  rw[List.isEmpty_iff.1 hm]at this;simp at this
 ·exfalso;obtain⟨q1,q2⟩:=List.mem_filter.1 hh;simp only[za,zaj]at q2;rcases hall h (List.mem_range.1 q1)with hc|hc
  ·have:=hce h hc;rw[this]at q2;exact absurd q2.1 (by decide)
  ·rw[<-zbn]at hc;rw[hc]at q2;exact absurd q2.2.1 (by decide)
 ·have hg:g∈wA ops aF ce ch:=List.mem_filter.2 ⟨List.mem_range.2 hlt,by
    rw[AG (l:=ce++ch) (fun j hj=>List.mem_append.2 hj) hd]
    simp[hl,hc]⟩
  have zM:=zM g hg
  have h2:∀a' w',(∃T' hp' nx' G' ι2,((∀i∈xX ops ce (g::ch),∀d,(af ops i).dst=some d->bq P ops n0 nt i T' hp' nx' G' (T'.at d))/\Ka P n0 nt ops aF f ce (g::ch) T' hp' nx' G' K)/\c8 n0 B w0 nt T' hp' nx' G' ι2 a' w') ->
    (∀i d,i∈ce->(af ops i).dst=some d->(∀g',(g'=g∨g'∈ch)->¬bf ops g' i)->Yv P ops (af ops i) a' w' (tv a' d))/\Dr P ops aF Z f (fun j=>j∈ce) (fun j=>j=g∨j∈ch) a' w':=by
   rintro a' w' ⟨T',hp',nx',G',ι2,⟨g1,g2⟩,g5⟩
   refine⟨fun i d hi hdd hp=>?_,?_⟩
   ·have zM:i∈xX ops ce (g::ch):=List.mem_filter.2 ⟨hi,by
      rw[zb];intro g' hg';have:=hp g' (List.mem_cons.1 hg');unfold bf at this;cases hb:bit (Region.before ops) g' i with
      |false=>rfl
      |true=>exact absurd hb this⟩
    have:=g1 i zM d hdd B w0 ι2 a' w' g5;rw[show tv a' d=ak ι2 (T'.at d)from (g5.1.2 ι2 (al.refl _ _)).1.val d];exact this
   ·have:=g2 B w0 ι2 a' w' g5 Z hz;have e:(fun j=>j∈g::ch)=fun j=>j=g∨j∈ch:=funext fun j=>by simp
    rw[e]at this;exact this
  rcases zM B w0 ι a w hs with ⟨p1,p2⟩|⟨p1,p2⟩
  ·exact .inl ⟨p1,p2.mono fun cv w' q=>h2 _ _ q⟩
  ·exact .inr ⟨p1,h2 _ _ p2⟩
theorem Bs {K':Tm->Tr AO->Pz->GH->Prop}(h:Ka P n0 nt ops aF f ce ch T hp nx G K)(hk:∀T hp nx G,K T hp nx G->K' T hp nx G):Ka P n0 nt ops aF f ce ch T hp nx G K' :=
 fun B w0 ι a w hs Z hz=>h B w0 ι a w hs Z fun T' hp' nx' G' ι2 a' w' k1 k2=>hz T' hp' nx' G' ι2 a' w' (hk _ _ _ _ k1) k2
end
end Go.aI
namespace Go.Rd
open Go.aI Go.RowKit Go.Rt
def PZ (cf:Cf)(y:Nat)(e:LE)(off n:Nat)(s:SS)(K:SS->R):R:=match py s.ty y with
 |some (cc,g)=>bif Ea s y e then CR cf y e off n true cc g s (fun _ s=>K s)else .bad 511 s
 |none=>.bad 512 s
def JI (y:Nat)(e:LE)(s:SS)(K:SS->R):R:=match yp s y e with
 |some w=>bif bo s (e.sub (.a (.len y)))then K (aP s (w.sub (.a (.wt y))))else .bad 513 s
 |none=>.bad 514 s
def JJ (s:SS)(K:SS->R):R:=bif bo s (.k (-1))then .ok else K s
inductive Ga where
 |UO (y:Nat) (e:LE)|abs
 |el (y:Nat) (e:LE) (off n:Nat)
 |new (ns:List (Nat×LE)) (sub:Nat)|LN (ns:List (Nat×LE)) (sub b k:Nat)|aC (g k:Nat) (e:LE)|UP (g:Nat)|P0 (g x cc:Nat)|P1 (b cc g:Nat)|P2 (b cc g:Nat)|VB (e:LE)|UQ (b y:Nat)|at_ (g:Nat) (x:SC)|JK (g:Nat) (at_ e:LE) (x:SC)
def act (cf:Cf)(a:Ga)(s:SS)(K:SS->R):R:=match a with
 |.UO y e=>JI y e s K
 |.abs=>JJ s K
 |.el y e off n=>PZ cf y e off n s K
 |.new ns sub=>Jg ns sub s K
 |.LN ns sub b k=>C6 ns sub b k s K
 |.aC g k e=>C7 g k e s K
 |.UP g=>Jh g s K
 |.P0 g x cc=>Dd cf g x cc s K
 |.P1 b cc g=>Db cf b cc g s K
 |.P2 b cc g=>Dc cf b cc g s K
 |.VB e=>bif bo s e then K (aP s e)else K s
 |.UQ b y=>JE cf b y s K
 |.at_ g x=>PV g x s K
 |.JK g at_ e x=>yQ g at_ e x s K
def yR (cf:Cf):List (SS->Option Ga)->SS->(SS->R)->R
 | [],s,K=>K s
 |a::l,s,K=>match a s with
  |some g=>act cf g s fun s=>yR cf l s K
  |none=>yR cf l s K
section
variable {c:Cx}{T:Tm}{G G':GH}{Γ Γ':dy}{ρ ρ':aZ}{s0 s s':SS}{cf:Cf}{rk:Rk}
theorem LO {y off n:Nat}{e:LE}{K:SS->R}(hP:cf.P=c.P)(hΦ:cf.Φ=c.Φ)(h:(PZ cf y e off n s K).Ok)(hk:Ok c T G Γ ρ s):Ac c T G Γ s ρ K:=by
 unfold PZ at h;cases hf:py s.ty y with
 |none=>rw[hf]at h;cases h
 |some p =>
  obtain⟨cc,g⟩:=p;rw[hf]at h;simp only at h;cases hi:Ea s y e with
  |false=>rw[hi]at h;cases h
  |true =>
   rw[hi]at h;have h:(CR cf y e off n true cc g s (fun _ s=>K s)).Ok:=h;obtain⟨cc',g',b0,o0,cp0,r1,r2,r3,r4,r5⟩:=rB hi hk;rw[hf]at r1;simp only[Option.some.injEq,Prod.mk.injEq]at r1;obtain⟨rfl,rfl⟩:=r1;obtain⟨ρ2,s2,a2,n2,o2,xs,b,o',cap,kd,el,size,C,g1,_⟩:=Eb hP hΦ h hk r3 r4 r5 hf;exact⟨G,Γ,ρ2,s2,sZ.refl _,g1,a2,n2,o2⟩
theorem JL {y:Nat}{e:LE}{K:SS->R}(h:(JI y e s K).Ok)(hk:Ok c T G Γ ρ s):Ac c T G Γ s ρ K:=by
 unfold JI at h;cases hw:yp s y e with
 |none=>rw[hw]at h;cases h
 |some w =>
  rw[hw]at h;simp only at h;cases hb:bo s (e.sub (.a (.len y)))with
  |false=>rw[hb]at h;cases h
  |true =>
   rw[hb]at h;have h1:=yq hw hk.sat;have h2:=ax hb hk.sat;rw[LE.aw,LE.aQ]at h2;have h2:0<=e.ev ρ-((ρ y).ns.length:Int):=h2;rw[zbz (by omega)]at h1;refine⟨G,Γ,ρ,_,sZ.refl _,h,cM.refl _ _,zad _,hk.aP ?_⟩;rw[LE.aw,LE.aQ];show 0<=w.ev ρ-(((ρ y).ns.sum+(ρ y).ns.length:Nat):Int);omega
theorem JM {K:SS->R}(h:(JJ s K).Ok)(hk:Ok c T G Γ ρ s):Ac c T G Γ s ρ K:=by
 unfold JJ at h;cases hb:bo s (.k (-1))with
 |false=>rw[hb]at h;exact⟨G,Γ,ρ,s,sZ.refl _,h,cM.refl _ _,zad _,hk⟩
 |true =>
  have:=ax hb hk.sat;rw[LE.bz]at this;omega
theorem P3 {a:Ga}{K:SS->R}(hP:cf.P=c.P)(hΦ:cf.Φ=c.Φ)(h:(act cf a s K).Ok)(hk:Ok c T G Γ ρ s):Ac c T G Γ s ρ K:=by
 cases a with
 |UO y e=>exact JL h hk
 |abs=>exact JM h hk
 |el y e off n=>exact LO hP hΦ h hk
 |new ns sub=>exact Jj h hk
 |LN ns sub b k=>exact Gw h hk
 |aC g k e=>exact Gx h hk
 |UP g=>exact Jk h hk
 |P0 g x cc=>exact GB hΦ h hk
 |P1 b cc g=>exact Gy hP hΦ h hk
 |P2 b cc g=>exact GA hΦ h hk
 |UQ b y=>exact JF hΦ h hk
 |at_ g x=>exact LL h hk
 |JK g at_ e x=>exact Dk h hk
 |VB e =>
  have h:(bif bo s e then K (aP s e)else K s).Ok:=h;cases he:bo s e with
  |false=>rw[he]at h;exact⟨G,Γ,ρ,s,sZ.refl _,h,cM.refl _ _,zad _,hk⟩
  |true=>rw[he]at h;exact⟨G,Γ,ρ,_,sZ.refl _,h,cM.refl _ _,zad _,hk.aP (ax he hk.sat)⟩
theorem GK {G G1 G2:GH}(h:sZ G G1)(h':sZ G1 G2):sZ G G2:=fun b=>by
 rcases h b with e|⟨el,size,C,e1,e2⟩
 ·rcases h' b with e'|⟨el,size,C,e1,e2⟩
  ·exact .inl (e'.trans e)
  ·exact .inr ⟨el,size,C,by rw[<-e];exact e1,e2⟩
 ·rcases h' b with e'|⟨el',size',C',e1',e2'⟩
  ·exact .inr ⟨el,size,C,e1,e'.trans e2⟩
  ·rw[e2]at e1';cases e1'
theorem qL (hP:cf.P=c.P)(hΦ:cf.Φ=c.Φ):∀{l:List (SS->Option Ga)}{T:Tm}{G:GH}{Γ:dy}{ρ:aZ}{s:SS}{K:SS->R},(yR cf l s K).Ok->Ok c T G Γ ρ s->Ac c T G Γ s ρ K
 | [],T,G,Γ,ρ,s,K,h,hk=>⟨G,Γ,ρ,s,sZ.refl _,h,cM.refl _ _,zad _,hk⟩
 |a::l,T,G,Γ,ρ,s,K,h,hk=>by
  unfold yR at h;split at h
  ·obtain⟨G1,Γ1,ρ1,s1,r1,k1,a1,n1,o1⟩:=P3 hP hΦ h hk;obtain⟨G2,Γ2,ρ2,s2,r2,k2,a2,n2,o2⟩:=qL hP hΦ k1 o1;exact⟨G2,Γ2,ρ2,s2,GK r1 r2,k2,a1.trans a2 n1,by omega,o2⟩
  ·exact qL hP hΦ h hk
end
def again (cf:Cf)(ops:Array Oper)(i:Nat)(s:SS):R:=match (af ops i).dst with
 |some d=>(match uI s.L d with
  |some w=>bif w.lt s.nx then JC cf ops i s (fun v s2=>bif v.same w then .ok else .bad 420 s2)else .bad 421 s
  |none=>.bad 422 s)
 |none=>.ok
def P4 (ops:Array Oper)(nt i:Nat):Option Nat:=match (af ops i).dst with|some d=>bif Nat.blt d nt then some d else none|none=>none
def QI (cf:Cf)(rk:Rk)(an:Nat->An)(a2:Nat->List (SS->Option Ga))(ops:Array Oper)(lig:List Nat)(K:SS->R):Nat->List Nat->List Nat->SS->R
 |0,_,_,s=>.bad 423 s
 |f+1,ce,ch,s=>match H8 ops lig ce ch with
  |i::_=>(match P4 ops cf.nt i with
   |some d=>bif lig.contains i&&(!ce.contains i&&(Nat.blt i ops.size&&uq ops (ce++ch) i))then JC cf ops i s fun v s=>QI cf rk an a2 ops lig K f (i::ce) ch (fZ s d v)else .bad 424 s
   |none=>.bad 425 s)
  | []=>match wA ops lig ce ch with
    | []=>bif H9 ops ce ch&&(((List.range ops.size).all fun i=>!lig.contains i||ce.contains i)&&((List.range ops.size).all fun i=>lig.contains i||ch.contains i))then K s else .bad 426 s
    |h::hs=>bif ce.all fun i=>lig.contains i then Dg ((h::hs).map fun h=>yR cf (a2 h) s fun s=>cX cf rk (an h) ops h s fun s=>(Dg ((xX ops ce (h::ch)).map fun i=>again cf ops i s)).and (QI cf rk an a2 ops lig K f ce (h::ch) s))else .bad 427 s
section
variable {c:Cx}{T:Tm}{G G':GH}{Γ Γ':dy}{ρ ρ':aZ}{s0 s s':SS}{ops:Array Oper}{i d:Nat}{cf:Cf}{rk:Rk}
theorem ui (hP:cf.P=c.P)(hΦ:cf.Φ=c.Φ)(hK:eX cf)(h:(again cf ops i s).Ok)(hd:(af ops i).dst=some d)(hk:Ok c T G Γ ρ s):bq c.P ops c.n0 c.nt i T c.hp c.nx G (T.at d):=by
 unfold again at h;rw[hd]at h;simp only at h;split at h
 ·rename_i w hw;cases hb:w.lt s.nx with
  |false=>rw[hb]at h;cases h
  |true =>
   rw[hb]at h;obtain⟨ρ2,s2,a,n,o,v,h1,h2⟩:=EB hP hΦ hK (show (JC cf ops i s (fun v s2=>bif v.same w then .ok else .bad 420 s2)).Ok from h) hk;have h1:((bif v.same w then R.ok else .bad 420 s2)).Ok:=h1;cases hs:v.same w with
   |false=>rw[hs]at h1;cases h1
   |true =>
    rw[hk.q.at_ _ _ (gD hw),<-SV.bG a hb,<-SV.aN hs ρ2];exact h2
 ·cases h
theorem LP {nt:Nat}(h:P4 ops nt i=some d):(af ops i).dst=some d/\d<nt:=by
 unfold P4 at h;split at h
 ·rename_i d' hd;cases hb:Nat.blt d' nt with
  |false=>rw[hb]at h;cases h
  |true=>rw[hb]at h;cases h;exact⟨hd,av hb⟩
 ·cases h
theorem LQ {h:Nat}{R:Tm->Tr AO->Pz->GH->Prop}{n0 nt:Nat}{P:Program}{hp:Tr AO}{nx:Pz}(hr:sZ G G')(hs:gm P n0 nt ops h T hp nx G' R):gm P n0 nt ops h T hp nx G R:=fun B w0 ι a w h=>hs B w0 ι a w (Bf h hr)
theorem Dl {an:Nat->An}{a2:Nat->List (SS->Option Ga)}{lig:List Nat}{K:Ex->SS->R}(hP:cf.P=c.P)(hΦ:cf.Φ=c.Φ)(hnt:cf.nt=c.nt)(hK:eX cf):∀{f:Nat}{ce ch:List Nat}{T:Tm}{G:GH}{Γ:dy}{ρ:aZ}{s:SS},jg c rk ρ->rk.ur s.nx=true->(QI cf rk an a2 ops lig (K .eJ) f ce ch s).Ok->Ok c T G Γ ρ s->Ka c.P c.n0 c.nt ops lig f ce ch T c.hp c.nx G (KR c s ρ K .eJ)
 |0,ce,ch,T,G,Γ,ρ,s,_,_,h,_=>by cases h
 |f+1,ce,ch,T,G,Γ,ρ,s,hR,hm,h,hk=>by
  unfold QI at h;split at h
  ·rename_i i l hn;split at h
   ·rename_i d hd;cases hb:(lig.contains i&&(!ce.contains i&&(Nat.blt i ops.size&&uq ops (ce++ch) i)))with
    |false=>rw[hb]at h;cases h
    |true =>
     rw[hb]at h;simp only[cond_true]at h;obtain⟨d1,d2⟩:=LP hd;obtain⟨ρ2,s2,a,n,o,v,h1,h2⟩:=EB hP hΦ hK h hk;refine F1 hb h2 d1 (by rw[<-hnt];exact d2) ?_;exact Bs (Dl (s:=fZ s2 d v) (K:=K) hP hΦ hnt hK (hR.bG hm a) (Rk.EF hm n) h1 (o.put d)) fun T' hp' nx' G' hh=>KR.up (s':=fZ s2 d v) a n hh
   ·cases h
  ·rename_i hn;split at h
   ·rename_i hh;cases hb:(H9 ops ce ch&&(((List.range ops.size).all fun i=>!lig.contains i||ce.contains i)&&((List.range ops.size).all fun i=>lig.contains i||ch.contains i)))with
    |false=>rw[hb]at h;cases h
    |true =>
     rw[hb]at h;simp only[za]at hb;exact K0 hb.1 hb.2.1 hb.2.2 ⟨rfl,rfl,Γ,ρ,s,h,cM.refl _ _,zad _,hk⟩
   ·rename_i g gs hh;cases hb:(ce.all fun i=>lig.contains i)with
    |false=>rw[hb]at h;cases h
    |true =>
     rw[hb]at h;simp only[cond_true]at h;refine Br (by rw[hn,hb];rfl) (by rw[hh];exact List.cons_ne_nil _ _) fun h0 hm0=>?_;rw[hh]at hm0;have h1:=tu h _ (List.mem_map.2 ⟨h0,hm0,rfl⟩);obtain⟨G1,Γ1,ρ1,s1,r1,j1,a1,n1,o1⟩:=qL hP hΦ h1 hk;have hv:=JG hP hΦ hnt hK (hR.bG hm a1) j1 o1;refine LQ r1 (gm.mono hv fun T' hp' nx' G' ⟨e1,e2,Γ',ρ',s',k1,k2,k3,k4⟩=>?_);subst e1 e2;have k2:cM s.nx ρ ρ':=a1.trans k2 n1;have k3:s.nx<=s'.nx:=zam n1 k3;obtain⟨k5,k6⟩:=R.gp k1;refine⟨fun i hi d hd=>ui hP hΦ hK (tu k5 _ (List.mem_map.2 ⟨i,hi,rfl⟩)) hd k4,?_⟩;exact Bs (Dl hP hΦ hnt hK (hR.bG hm k2) (Rk.EF hm k3) k6 k4) fun T2 hp2 nx2 G2 hh2=>KR.up k2 k3 hh2
end
end Go.Rd
namespace Go.Rd
open Go.aI Go.RowKit Go.Rt
structure Gu where
 an:Nat->SS->Nat->An
 ac:Nat->List (SS->Option Ga)
 lp:Nat->SS->Option (SS×LE)
 jn:Nat->SS->Option SS
 dr:Nat->List Nat
 un:Nat->Nat
 a2:Nat->Nat->List (SS->Option Ga)
 dd:Nat->SS->Bool
def Nx (Φ:Forms)(base:Nat)(s0 s:SS):R:=bif sub Φ s0 s ⟨base,uY base s0 s []⟩then .ok else .bad 501 s
def RS (Φ:Forms)(base:Nat)(s0:SS)(mu:LE)(s:SS):R :=
 let σ:Su:=⟨base,uY base s0 s []⟩
 bif sub Φ s0 s σ then (match sE σ mu with|some e=>bif bo s e&&bo s ((mu.sub e).bk (-1))then .ok else .bad 502 s|none=>.bad 503 s)else .bad 504 s
def JN (K:Ex->SS->R)(x:SS->R):Ex->SS->R
 |.eJ=>x
 |.ext j=>K (.ext j)
 |.ret=>K .ret
def u4 (Φ:Forms)(body:SS->(Ex->SS->R)->R)(base:Nat)(s0:SS)(mu:LE)(dd:SS->Bool)(K:Ex->SS->R):Nat->SS->R
 |0,s=>RS Φ base s0 mu s
 |n+1,s=>bif dd s then body s (JN K (u4 Φ body base s0 mu dd K n))else match RS Φ base s0 mu s with
  |.ok=>.ok
  |_=>body s (JN K (u4 Φ body base s0 mu dd K n))
def QJ (id:Nat)(K:Ex->SS->R)(x:SS->R):Ex->SS->R
 |.eJ=>x
 |.ext j=>bif Nat.beq j id then x else K (.ext j)
 |.ret=>K .ret
def ex (cf:Cf)(rk:Rk)(gu:Gu):Code->Nat->SS->(Ex->SS->R)->R
 |.skip,_,s,K=>K .eJ s
 |.seq x y,l,s,K=>ex cf rk gu x l s (JN K fun s=>ex cf rk gu y l s K)
 |.cond (.tmp t) x y,l,s,K=>(match uI s.L t with
  |some (.v false [.bool be])=>split s be (fun s=>ex cf rk gu x l s K) (fun s=>ex cf rk gu y l s K)
  |_=>.bad 505 s)
 |.cond (.const (.bool true)) x _,l,s,K=>ex cf rk gu x l s K
 |.cond (.const (.bool false)) _ y,l,s,K=>ex cf rk gu y l s K
 |.block id x,_,s,K=>(match gu.jn id s with
  |none=>ex cf rk gu x id s (QJ id K (K .eJ))
  |some sj=>bif Nat.ble s.nx sj.nx then (ex cf rk gu x id s (QJ id K (Nx cf.Φ s.nx sj))).and (K .eJ sj)else .bad 506 s)
 |.loop x,l,s,K=>(match gu.lp l s with
  |some (s0,mu)=>bif Nat.ble s.nx s0.nx&&(mu.lt s0.nx&&bo s0 mu)then (Nx cf.Φ s.nx s0 s).and (ex cf rk gu x l s0 (JN K (u4 cf.Φ (fun s K=>ex cf rk gu x l s K) s.nx s0 mu (gu.dd l) K (gu.un l))))else .bad 507 s
  |none=>.bad 508 s)
 |.exit id,_,s,K=>K (.ext id) s
 |.ret,_,s,K=>K .ret s
 |.region id ops false,_,s,K=>yR cf (gu.ac id) s fun s=>RR cf rk (gu.an id s) ops 0 ops.size s (K .eJ)
 |.region id ops true,_,s,K=>yR cf (gu.ac id) s fun s=>bif ur ops (gu.dr id) cf.nt then QI cf rk (gu.an id s) (gu.a2 id) ops (gu.dr id) (K .eJ) (ops.size+1) [] [] s else .bad 509 s
 |_,_,s,_=>.bad 510 s
section
variable {c:Cx}{T:Tm}{G G':GH}{Γ Γ':dy}{ρ ρ':aZ}{s0 s s':SS}{cf:Cf}{rk:Rk}{gu:Gu}{co:Code}
theorem u5 {K:Ex->Tm->Tr AO->Pz->GH->Prop}{n0 nt:Nat}{P:Program}{hp:Tr AO}{nx:Pz}(hr:sZ G G')(h:dx P n0 nt co T hp nx G' K):dx P n0 nt co T hp nx G K:=fun r hrf B w0 w ι a hs=>h r hrf B w0 w ι a (Bf hs hr)
theorem JO {base:Nat}(h:(Nx c.Φ base s0 s).Ok)(hk:Ok c T G Γ ρ s):∃ρ',cM base ρ ρ'/\Ok c T G Γ ρ' s0:=by
 unfold Nx at h;cases hb:sub c.Φ s0 s ⟨base,uY base s0 s []⟩with
 |false=>rw[hb]at h;cases h
 |true=>exact⟨_,Su.bG ⟨base,_⟩ ρ,yN hb hk⟩
theorem P5 {base:Nat}{mu:LE}(h:(RS c.Φ base s0 mu s).Ok)(hk:Ok c T G Γ ρ s):∃ρ',cM base ρ ρ'/\Ok c T G Γ ρ' s0/\0<=mu.ev ρ'/\mu.ev ρ'<mu.ev ρ:=by
 unfold RS at h;simp only at h;cases hb:sub c.Φ s0 s ⟨base,uY base s0 s []⟩with
 |false=>rw[hb]at h;cases h
 |true =>
  rw[hb]at h;simp only[cond_true]at h
  have hσ:jf ρ ⟨base,uY base s0 s []⟩:=by
   have b1:=hb;unfold sub at b1;rw[za]at b1;exact (ly b1.1 hk.sat).1
  split at h
  ·rename_i e he;cases hb2:(bo s e&&bo s ((mu.sub e).bk (-1)))with
   |false=>rw[hb2]at h;cases h
   |true =>
    rw[za]at hb2;have a1:=ax hb2.1 hk.sat;have a2:=ax hb2.2 hk.sat;rw[LE.aO,LE.aw]at a2;have e1:=eH hσ he;exact⟨_,Su.bG ⟨base,_⟩ ρ,yN hb hk,by rw[<-e1];exact a1,by rw[<-e1];omega⟩
  ·cases h
theorem KR.run {K:Ex->SS->R}{n0 nt:Nat}{P:Program}{hp:Tr AO}{nx:Pz}(ha:cM s.nx ρ ρ')(hn:s.nx<=s'.nx)(h:dx P n0 nt co T hp nx G (KR c s' ρ' K)):dx P n0 nt co T hp nx G (KR c s ρ K):=dD h fun e T hp nx G hh=>hh.up ha hn
theorem lA (hP:cf.P=c.P)(hΦ:cf.Φ=c.Φ)(hnt:cf.nt=c.nt)(hK:eX cf)(hmix:c.P.follows .mixedOrders=true):∀{co:Code}{l:Nat}{T:Tm}{G:GH}{Γ:dy}{ρ:aZ}{s:SS}{K:Ex->SS->R},jg c rk ρ->rk.ur s.nx=true->(ex cf rk gu co l s K).Ok->Ok c T G Γ ρ s->dx c.P c.n0 c.nt co T c.hp c.nx G (KR c s ρ K)
 |.skip,l,T,G,Γ,ρ,s,K,hR,hm,h,hk=>Cm ⟨rfl,rfl,Γ,ρ,s,h,cM.refl _ _,zad _,hk⟩
 |.exit id,l,T,G,Γ,ρ,s,K,hR,hm,h,hk=>Cl ⟨rfl,rfl,Γ,ρ,s,h,cM.refl _ _,zad _,hk⟩
 |.ret,l,T,G,Γ,ρ,s,K,hR,hm,h,hk=>F0 ⟨rfl,rfl,Γ,ρ,s,h,cM.refl _ _,zad _,hk⟩
 |.seq x y,l,T,G,Γ,ρ,s,K,hR,hm,h,hk=>by
  have h:(ex cf rk gu x l s (JN K fun s=>ex cf rk gu y l s K)).Ok:=h;refine wz (dD (lA hP hΦ hnt hK hmix hR hm h hk) fun e T' hp' nx' G' hh=>?_);obtain⟨e1,e2,Γ',ρ',s',k1,k2,k3,k4⟩:=hh;subst e1 e2;cases e with
  |eJ=>exact KR.run k2 k3 (lA hP hΦ hnt hK hmix (hR.bG hm k2) (Rk.EF hm k3) k1 k4)
  |ext j=>exact⟨rfl,rfl,Γ',ρ',s',k1,k2,k3,k4⟩
  |ret=>exact⟨rfl,rfl,Γ',ρ',s',k1,k2,k3,k4⟩
 |.cond cd x y,l,T,G,Γ,ρ,s,K,hR,hm,h,hk=>by
  cases cd with
  |tmp t =>
   have h:((match uI s.L t with
    |some (.v false [.bool be])=>split s be (fun s=>ex cf rk gu x l s K) (fun s=>ex cf rk gu y l s K)
    |_=>.bad 505 s)).Ok:=h
   split at h
   ·rename_i be hl;have hT:T.at t=.bool (be.ev ρ):=hk.q.at_ _ _ (gD hl);obtain⟨s1,n1,_,o1,h1|h1⟩:=nJ h hk
    ·obtain⟨e1,h1⟩:=h1;rw[e1]at hT;exact sO hT (KR.run (by rw[<-n1];exact cM.refl _ _) (by omega) (lA hP hΦ hnt hK hmix hR (by rw[n1];exact hm) h1 o1))
    ·obtain⟨e1,h1⟩:=h1;rw[e1]at hT;exact rj hT (KR.run (by rw[<-n1];exact cM.refl _ _) (by omega) (lA hP hΦ hnt hK hmix hR (by rw[n1];exact hm) h1 o1))
   ·cases h
  |const v =>
   cases v with
   |bool b =>
    cases b with
    |true=>exact ll (lA hP hΦ hnt hK hmix hR hm (show (ex cf rk gu x l s K).Ok from h) hk)
    |false=>exact ll (lA hP hΦ hnt hK hmix hR hm (show (ex cf rk gu y l s K).Ok from h) hk)
   |_=>cases h
  |func f=>cases h
  |global g=>cases h
 |.block id x,l,T,G,Γ,ρ,s,K,hR,hm,h,hk=>by
  have h:((match gu.jn id s with
   |none=>ex cf rk gu x id s (QJ id K (K .eJ))
   |some sj=>bif Nat.ble s.nx sj.nx then (ex cf rk gu x id s (QJ id K (Nx cf.Φ s.nx sj))).and (K .eJ sj)else .bad 506 s)).Ok:=h
  split at h
  ·refine nB (dD (lA hP hΦ hnt hK hmix hR hm h hk) fun e T' hp' nx' G' hh=>?_);obtain⟨e1,e2,Γ',ρ',s',k1,k2,k3,k4⟩:=hh;cases e with
   |eJ=>exact⟨e1,e2,Γ',ρ',s',k1,k2,k3,k4⟩
   |ret=>exact⟨e1,e2,Γ',ρ',s',k1,k2,k3,k4⟩
   |ext j =>
    show KR c s ρ K (if j=id then .eJ else .ext j) T' hp' nx' G';have k1:((bif Nat.beq j id then K .eJ else K (.ext j)) s').Ok:=k1;by_cases hj:j=id
    ·subst hj;rw[if_pos rfl];rw[zcf]at k1;exact⟨e1,e2,Γ',ρ',s',k1,k2,k3,k4⟩
    ·rw[if_neg hj]
     have hb:Nat.beq j id=false:=by
      cases hb:Nat.beq j id with
      |false=>rfl
      |true=>exact absurd (ai hb) hj
     rw[hb]at k1;exact⟨e1,e2,Γ',ρ',s',k1,k2,k3,k4⟩
  ·rename_i sj hj0;cases hb:Nat.ble s.nx sj.nx with
   |false=>rw[hb]at h;cases h
   |true =>
    rw[hb]at h;simp only[cond_true]at h;have hn:=aK hb;obtain⟨h1,h2⟩:=R.gp h;rw[hΦ]at h1
    have fin:∀{T':Tm} {hp':Tr AO} {nx':Pz} {G':GH} {Γ':dy} {ρ':aZ} {s':SS},hp'=c.hp->nx'=c.nx->(Nx c.Φ s.nx sj s').Ok->cM s.nx ρ ρ'->Ok c T' G' Γ' ρ' s'->KR c s ρ K .eJ T' hp' nx' G':=fun e1 e2 ht ha ho=>by
     obtain⟨ρ2,a2,o2⟩:=JO ht ho;exact⟨e1,e2,_,ρ2,sj,h2,ha.trans a2 (zad _),hn,o2⟩
    refine nB (dD (lA hP hΦ hnt hK hmix hR hm h1 hk) fun e T' hp' nx' G' hh=>?_);obtain⟨e1,e2,Γ',ρ',s',k1,k2,k3,k4⟩:=hh;cases e with
    |eJ=>exact fin e1 e2 k1 k2 k4
    |ret=>exact⟨e1,e2,Γ',ρ',s',k1,k2,k3,k4⟩
    |ext j =>
     show KR c s ρ K (if j=id then .eJ else .ext j) T' hp' nx' G';have k1:((bif Nat.beq j id then Nx c.Φ s.nx sj else K (.ext j)) s').Ok:=k1;by_cases hj:j=id
     ·subst hj;rw[if_pos rfl];rw[zcf]at k1;exact fin e1 e2 k1 k2 k4
     ·rw[if_neg hj]
      have hb:Nat.beq j id=false:=by
       cases hb:Nat.beq j id with
       |false=>rfl
       |true=>exact absurd (ai hb) hj
      rw[hb]at k1;exact⟨e1,e2,Γ',ρ',s',k1,k2,k3,k4⟩
 |.loop x,l,T,G,Γ,ρ,s,K,hR,hm,h,hk=>by
  have h:((match gu.lp l s with
   |some (s0,mu)=>bif Nat.ble s.nx s0.nx&&(mu.lt s0.nx&&bo s0 mu)then (Nx cf.Φ s.nx s0 s).and (ex cf rk gu x l s0 (JN K (u4 cf.Φ (fun s K=>ex cf rk gu x l s K) s.nx s0 mu (gu.dd l) K (gu.un l))))else .bad 507 s
   |none=>.bad 508 s)).Ok:=h
  split at h
  ·rename_i s0 mu hl;cases hb:(Nat.ble s.nx s0.nx&&(mu.lt s0.nx&&bo s0 mu))with
   |false=>rw[hb]at h;cases h
   |true =>
    rw[hb]at h;simp only[cond_true]at h;simp only[za]at hb;obtain⟨b1,b2,b3⟩:=hb;have b1:=aK b1;obtain⟨h1,h2⟩:=R.gp h;rw[hΦ]at h1 h2;obtain⟨ρ1,a1,o1⟩:=JO h1 hk
    have key:∀N:Nat,
      (∀(T:Tm) (G:GH) (Γ:dy) (ρ2:aZ),cM s.nx ρ ρ2->Ok c T G Γ ρ2 s0->(mu.ev ρ2).toNat*(gu.un l+1)+(gu.un l+1)<=N->ma c.P c.n0 c.nt x N T c.hp c.nx G (KR c s ρ K)) /\
      (∀(u:Nat) (T:Tm) (G:GH) (Γ:dy) (ρ2 ρ':aZ) (s':SS),cM s.nx ρ ρ2->cM s0.nx ρ2 ρ'->s0.nx<=s'.nx->(u4 c.Φ (fun s K=>ex cf rk gu x l s K) s.nx s0 mu (gu.dd l) K u s').Ok->Ok c T G Γ ρ' s'->(mu.ev ρ2).toNat*(gu.un l+1)+u<=N->ma c.P c.n0 c.nt x N T c.hp c.nx G (KR c s ρ K)):=by
     have back:∀(N:Nat) (T:Tm) (G:GH) (Γ:dy) (ρ2 ρ':aZ) (s':SS),(∀(T:Tm) (G:GH) (Γ:dy) (ρ2:aZ),cM s.nx ρ ρ2->Ok c T G Γ ρ2 s0->(mu.ev ρ2).toNat*(gu.un l+1)+(gu.un l+1)<=N->ma c.P c.n0 c.nt x N T c.hp c.nx G (KR c s ρ K))->cM s.nx ρ ρ2->cM s0.nx ρ2 ρ'->(RS c.Φ s.nx s0 mu s').Ok->Ok c T G Γ ρ' s'->(mu.ev ρ2).toNat*(gu.un l+1)<=N->ma c.P c.n0 c.nt x N T c.hp c.nx G (KR c s ρ K):=fun N T G Γ ρ2 ρ' s' ih a2 a3 ht ho hN=>by
      obtain⟨ρ3,b3,o3,m1,m2⟩:=P5 ht ho;have e3:mu.ev ρ'=mu.ev ρ2:=LE.bG a3 b2;have aa:cM s.nx ρ ρ':=a2.trans a3 b1;refine ih T G Γ ρ3 (aa.trans b3 (zad _)) o3 ?_;have:((mu.ev ρ3).toNat+1)*(gu.un l+1)<=(mu.ev ρ2).toNat*(gu.un l+1):=zae _ (by omega);rw[zax]at this;omega
     intro N
     induction N with
     |zero =>
      refine⟨fun T G Γ ρ2 a2 o2 hN=>by omega,fun u T G Γ ρ2 ρ' s' a2 a3 hn hl ho hN=>?_⟩;cases u with
      |zero=>exact back 0 T G Γ ρ2 ρ' s' (fun T G Γ ρ2 a2 o2 hN=>by omega) a2 a3 hl ho (by omega)
      |succ u=>omega
     |succ N ih =>
      obtain⟨ih1,ih2⟩:=ih
      have go:∀(u:Nat) (T:Tm) (G:GH) (Γ:dy) (ρ2 ρ':aZ) (s':SS),cM s.nx ρ ρ2->cM s0.nx ρ2 ρ'->s0.nx<=s'.nx->(ex cf rk gu x l s' (JN K (u4 c.Φ (fun s K=>ex cf rk gu x l s K) s.nx s0 mu (gu.dd l) K u))).Ok->Ok c T G Γ ρ' s'->(mu.ev ρ2).toNat*(gu.un l+1)+u<=N->ma c.P c.n0 c.nt x (N+1) T c.hp c.nx G (KR c s ρ K):=fun u T G Γ ρ2 ρ' s' a2 a3 hn hx ho hN=>by
       have aa:cM s.nx ρ ρ':=a2.trans a3 b1;refine AE (dD (lA hP hΦ hnt hK hmix (hR.bG hm aa) (Rk.EF hm (zam b1 hn)) hx ho) fun e T' hp' nx' G' hh=>?_);obtain⟨e1,e2,Γ',ρ3,s3,k1,k2,k3,k4⟩:=hh;subst e1 e2;cases e with
       |eJ=>exact ih2 u T' G' Γ' ρ2 ρ3 s3 a2 (a3.trans k2 hn) (zam hn k3) k1 k4 hN
       |ext j=>exact⟨rfl,rfl,Γ',ρ3,s3,k1,aa.trans k2 (zam b1 hn),by omega,k4⟩
       |ret=>exact⟨rfl,rfl,Γ',ρ3,s3,k1,aa.trans k2 (zam b1 hn),by omega,k4⟩
      have fst:∀(T:Tm) (G:GH) (Γ:dy) (ρ2:aZ),cM s.nx ρ ρ2->Ok c T G Γ ρ2 s0->(mu.ev ρ2).toNat*(gu.un l+1)+(gu.un l+1)<=N+1->ma c.P c.n0 c.nt x (N+1) T c.hp c.nx G (KR c s ρ K):=fun T G Γ ρ2 a2 o2 hN=>go (gu.un l) T G Γ ρ2 ρ2 s0 a2 (cM.refl _ _) (zad _) h2 o2 (by omega);refine⟨fst,fun u T G Γ ρ2 ρ' s' a2 a3 hn hl ho hN=>?_⟩;cases u with
      |zero=>exact back (N+1) T G Γ ρ2 ρ' s' fst a2 a3 hl ho (by omega)
      |succ u =>
       unfold u4 at hl;cases hd:gu.dd l s' with
       |true=>rw[hd]at hl;exact go u T G Γ ρ2 ρ' s' a2 a3 hn hl ho (by omega)
       |false =>
        rw[hd]at hl;simp only[cond_false]at hl;split at hl
        ·rename_i ht;exact back (N+1) T G Γ ρ2 ρ' s' fst a2 a3 (by rw[ht];trivial) ho (by omega)
        ·exact go u T G Γ ρ2 ρ' s' a2 a3 hn hl ho (by omega)
    exact Ck _ ((key _).1 T G Γ ρ1 a1 o1 (zad _))
  ·cases h
 |.region id ops dr,l,T,G,Γ,ρ,s,K,hR,hm,h,hk=>by
  cases dr with
  |false =>
   have h:(yR cf (gu.ac id) s (fun s=>RR cf rk (gu.an id s) ops 0 ops.size s (K .eJ))).Ok:=h;obtain⟨G1,Γ1,ρ1,s1,r1,k1,a1,n1,o1⟩:=qL hP hΦ h hk;exact u5 r1 (KR.run a1 n1 (xW rfl (JH hP hΦ hnt hK (by omega) (hR.bG hm a1) (Rk.EF hm n1) k1 o1)))
  |true =>
   have h:(yR cf (gu.ac id) s (fun s=>bif ur ops (gu.dr id) cf.nt then QI cf rk (gu.an id s) (gu.a2 id) ops (gu.dr id) (K .eJ) (ops.size+1) [] [] s else .bad 509 s)).Ok:=h;obtain⟨G1,Γ1,ρ1,s1,r1,k1,a1,n1,o1⟩:=qL hP hΦ h hk;cases hb:ur ops (gu.dr id) cf.nt with
   |false=>rw[hb]at k1;cases k1
   |true =>
    rw[hb]at k1;exact u5 r1 (KR.run a1 n1 (Co hmix _ (by rw[<-hnt];exact hb) (Dl hP hΦ hnt hK (hR.bG hm a1) (Rk.EF hm n1) k1 o1)))
 |.rangeFunc _ _ _ _,l,T,G,Γ,ρ,s,K,hR,hm,h,hk=>by cases h
 |.scope _,l,T,G,Γ,ρ,s,K,hR,hm,h,hk=>by cases h
 |.label _,l,T,G,Γ,ρ,s,K,hR,hm,h,hk=>by cases h
 |.goto _,l,T,G,Γ,ρ,s,K,hR,hm,h,hk=>by cases h
 |.refuse _,l,T,G,Γ,ρ,s,K,hR,hm,h,hk=>by cases h
end
end Go.Rd
