/- Part Xdc of the proof of OverlapEnds: no condition. -/
import Derived.Test.YtmabojcaklojhaaGreatXdb
import Derived.Test.YtmabojcaklojhaaGreatXad
set_option linter.unusedSimpArgs false
set_option linter.unusedVariables false
namespace Go.Rt
open Go.aK Go.RowKit
section
variable {c:Cx}{ops:Array Oper}{i m d f:Nat}{T:Tm}{G G':GH}{Γ Γ':dI}{st st':St}{v u:AV}
theorem Q.F1 (hq:Q c T G Γ st){cc g n k:Nat}{E2:List AV}{osA:List Own}(ho:st.os.Perm (osA++[.ul v cc g n]))(hE2:E2.length=k*af c.P (c.Φ.ty cc))(kL:CL E2)(hel:∀j,j<k->eY c.P c.Φ G Γ WU cc g (n+j) ((E2.drop (j*af c.P (c.Φ.ty cc))).take (af c.P (c.Φ.ty cc))))(hlim:n+k<=ma) :
  ∃E1,Ext G v (c.Φ.ty cc) (af c.P (c.Φ.ty cc)) n E1/\nW E1/\(∀G' v',KC c.n0 G G' v v' (c.Φ.ty cc) (af c.P (c.Φ.ty cc)) n k E1 E2->∃Γ',Q c T G' Γ' ⟨st.L,osA++[.ul v' cc g (n+k)],st.eF,st.gs⟩):=by
 have hown:df c.P c.Φ G Γ (.ul v cc g n):=hq.own _ (ho.mem_iff.2 (by simp));obtain⟨hg,hlm,hown'⟩:=hown
 obtain⟨E1,t1,t2,t3,t4⟩:∃E1,Ext G v (c.Φ.ty cc) (af c.P (c.Φ.ty cc)) n E1/\CL E1/\E1.length=n*af c.P (c.Φ.ty cc)/\(∀j,j<n->eY c.P c.Φ G Γ WU cc g j ((E1.drop (j*af c.P (c.Φ.ty cc))).take (af c.P (c.Φ.ty cc)))):=by
  rcases hown' with ⟨h1,rfl⟩|⟨b,cap,size,C,h1,h2,h3,h4,h5,h6,h7⟩
  ·exact⟨[],.inl ⟨h1,rfl,rfl⟩,kG,by simp,fun j hj=>absurd hj (by omega)⟩
  ·exact⟨C,.inr ⟨b,0,cap,size,C,h1,h3,by omega,by rw[zca,<-h4,zcl],by omega,h6⟩,uP h4 fun j hj=>(h7 j hj).cl,h4,h7⟩
 refine⟨E1,t1,t2.nf,fun G' v' ha'=>?_⟩
 have fin:∀(b c' size:Nat),G'=fx G b (.cells .data (c.Φ.ty cc) size (E1++E2))->v'=.dx b 0 (n+k) c'->c'*af c.P (c.Φ.ty cc)<=size->n+k<=c'->((Own.ul v cc g n).aY=some b∨G b=none)->Γ.m b=none->((G b).isSome=true∨c.n0<=b)->(∀el size C,G b≠some (.cells .raw el size C))->(∀el size' C,G b=some (.cells .data el size' C)->el=c.Φ.ty cc/\size'=size) ->
   ∃Γ',Q c T G' Γ' ⟨st.L,osA++[.ul v' cc g (n+k)],st.eF,st.gs⟩:=by
  intro b c' size hG hv hcs hlc hob hΓ hgr hraw hdat;subst hG hv;refine⟨Γ,?_⟩
  have:=hq.vu (b:=b) (G':=fx G b (.cells .data (c.Φ.ty cc) size (E1++E2))) (Γ':=Γ) (o':=.ul (.dx b 0 (n+k) c') cc g (n+k)) (tys':=[]) ho (dP hgr) (fun _ _=>rfl) (fun k h=>dH h) (by rw[aA];rfl) hraw (fun el size' C' h=>⟨E1++E2,by obtain⟨r1,r2⟩:=hdat _ _ _ h;subst r1 r2;exact aA _ _ _⟩)
   (fun x h=>by rw[hΓ]at h;cases h) rfl rfl hob rfl (fun x _ _ h=>by rw[hΓ]at h;cases h)
   (fun hr hl=>⟨hg,hlim,.inr ⟨b,c',size,E1++E2,rfl,hΓ,aA _ _ _,by rw[zak,t3,hE2,zbh],hcs,hlc,fun j hj=>by
    by_cases hlt:j<n
    ·have h1:(j+1)*af c.P (c.Φ.ty cc)<=n*af c.P (c.Φ.ty cc):=zae _ hlt;rw[zau]at h1;rw[zdb (by omega),zco (by rw[zas];omega)];exact (t4 j hlt).le hr hl hg
    ·have h1:j*af c.P (c.Φ.ty cc)=n*af c.P (c.Φ.ty cc)+(j-n)*af c.P (c.Φ.ty cc):=by rw[<-zbh];congr 1;omega
     rw[h1,<-t3,List.drop_append];rw[zci (by omega),zcz,zcu];have:=hel (j-n) (by omega);rw[show n+(j-n)=j by omega]at this
     exact this.le hr hl hg⟩⟩) (fun f hf=>by cases hf)
  exact this
 rcases ha' with ⟨rfl,rfl,h1,h2,rfl⟩|⟨b,o,cap,size,C,rfl,h2,h3,h4,h5,h6,h7⟩|⟨b,c',size,h1,h2,h3,h4,h5,h6⟩
 ·subst h1 h2;exact⟨Γ,hq.iW (fun _ _ h=>h) ⟨[],by simpa using ho⟩ (fun f h=>h) (fun p h=>h)⟩
 ·rcases hown' with ⟨h,_⟩|⟨b',cap2,size2,C2,k1,k2,k3,k4,k5,k6,k7⟩
  ·cases h
  ·cases k1;rw[h2]at k3;cases k3
   have hC:C=E1:=by
    rcases t1 with ⟨h,_⟩|⟨_,_,_,_,_,g1,g2,g3,g4,_⟩
    ·cases h
    ·cases g1;rw[h2]at g2;cases g2;rw[<-g4,zca,<-k4,zcl]
   subst hC;exact fin b cap size (by rw[h7,wL (by omega)]) h3 (by omega) h4 (.inl rfl) k2 (.inl (by rw[h2];rfl)) (fun _ _ _ h=>by rw[h2]at h;cases h) fun el size' C' h=>by rw[h2]at h;cases h;exact⟨rfl,rfl⟩
 ·exact fin b c' size h6 h3 h5 h4 (.inr h2) (hq.ht.none h2) (.inr h1) (fun _ _ _ h=>by rw[h2]at h;cases h) fun _ _ _ h=>by rw[h2]at h;cases h
end
end Go.Rt
namespace Go.aK
open Go.RowKit
section
variable {P:Program}{n0 nt:Nat}{T T2:Tm}{hp H:Tr AO}{nx X:Pz}{G:GH}{ops:Array Oper}{aI:List Nat}{i m d:Nat}{v u:AV}
theorem fI.IB {t e:TypeId}{yl yc:Operand}{n:Nat}{z:AV}{R:Tm->Tr AO->Pz->GH->Prop}(hg:(ae ops i).guard=none)(hd:(ae ops i).dst=some d)(hlt:d<nt)(ho:(ae ops i).op=.makeSlice t yl yc)(hu:P.underlying t=some (.slice e))(hz:zeroOf P e=some z)
  (hgz:(Nat.beq z.cells.length (af P e)&&(Nat.ble (af P e) 1000&&(Nat.blt 0 (af P e)&&Nat.ble (P.bytesOf e) 1000000)))=true) (hl:a9 nt T yl (.int .i64 (.ofNat n))) (hc:a9 nt T yc (.int .i64 (.ofNat n))) (hn:n<=16777216) (hnf:nW z.cells)
  (hr:∀b,n0<=b->G b=none->R (T.put d (.dx b 0 n n)) hp nx (fx G b (.cells .data e (n*af P e) (gY n z.cells)))):fI P n0 nt ops i T hp nx G R:=by
 intro B w0 ι a w hs;refine .inl ⟨by simp[Region.wanted,hg],?_⟩;rw[hd];have hval:=(hs.1.2 ι (ao.refl _ _)).1;simp only[za]at hgz;obtain⟨g1,g2,g3,g5⟩:=hgz;have g1:=aj g1;have g2:=aN g2;have g3:=ax g3;have g5:=aN g5;obtain⟨j,zv,q1,q2,q3,q4⟩:=cG hz;have hbytes:P.bytesOf e=j.bytes:=by unfold Program.bytesOf;rw[q1];rfl
 have hsz:j.size=af P e:=by unfold af;rw[q1];rfl
 have hm:j.bytes*n<=1000000*16777216:=zdq (by omega) hn;have hz':zv.cells=(aq ι z.cells).toArray:=by rw[<-ei 8 zv z q3 ι,bY]
 have hmade:madeCells zv.cells (n*j.size)=(aq ι (gY n z.cells)).toArray:=by
  unfold madeCells;rw[hz',hsz,<-g1];exact qi ι z.cells (by omega) n
 have hrun:(execOp a.eval (ae ops i)).run P w=.ok (.value (.slice (some ⟨w.heap.size,0,none⟩) n n)) (w.alloc (.cells (aq ι (gY n z.cells)).toArray e (0,0))):=by
  simp only[execOp,ho,Sem.run_bind];rw[hl ι a hval,hc ι a hval,eJ];have hrm:=run_make w t e j zv hu q1 q2 .i64 .i64 (n:Int) (n:Int) (by omega) (by omega) (by omega) (by omega);rw[hrm];simp only[Result.andThen_ok,Sem.run_pure,zcv];rw[hmade]
 have hrl:(gY n z.cells).length=n*af P e:=by rw[gU,g1]
 have hnfr:nW (gY n z.cells):=by
  clear hrun hmade hm hrl hn hl hc hr
  induction n with
  |zero=>exact gG
  |succ n ih=>exact iE hnf ih
 obtain⟨p1,p2,p3⟩:=qG (kd:=.data) (el:=e) hs hnfr;rw[hrl]at p1;exact .inl ⟨_,_,.inl hrun,_,_,_,_,ι,hr _ p2 p3,eo p1 hlt (jf _ _ _ _) (by simp[ak,fD])⟩
end
end Go.aK
namespace Go.Rt
open Go.aK Go.RowKit
def sD (G G':GH):Prop:=∀b,G' b=G b∨∃el size C,G b=some (.cells .loc el size C)/\G' b=some (.cells .data el size C)
theorem sD.refl (G:GH):sD G G:=fun b=>.inl rfl
theorem A4 {n0:Nat}{B:Nat->Prop}{w0 w:World}{nt:Nat}{T:Tm}{hp:Tr AO}{nx:Pz}{G G':GH}{ι:En}{a:Act}(h:dX n0 B w0 nt T hp nx G ι a w)(hr:sD G G'):dX n0 B w0 nt T hp nx G' ι a w:=by
 refine⟨h.1,fun b g hg=>?_,fun id o h1 h2=>?_,h.2.2.2.1,fun b hb hn=>h.2.2.2.2 b hb ?_⟩
 ·rcases hr b with e|⟨el,size,C,e1,e2⟩
  ·exact h.2.1 b g (by rw[<-e];exact hg)
  ·rw[e2]at hg;cases hg;have:=h.2.1 b _ e1;obtain⟨p1,A,fz,p2,p3,p4,p5,p6⟩:=this;exact⟨p1,A,fz,p2,p3,p4,fun i hi _=>p5 i hi (fun h=>by cases h),fun _=>p6 (fun e=>by cases e)⟩
 ·have:=h.2.2.1 id o h1 h2;rcases hr (ι.aY id)with e|⟨el,size,C,e1,e2⟩
  ·rw[e];exact this
  ·rw[this]at e1;cases e1
 ·rcases hr b with e|⟨el,size,C,e1,e2⟩
  ·rw[<-e];exact hn
  ·rw[e2]at hn;cases hn
def iq (Γ:dI)(g:Nat)(d:Gd)(k:Nat):dI:=⟨Γ.m,fun x=>if x=g then d else Γ.gd x,k⟩
theorem gq (Γ:dI)(g:Nat)(d:Gd)(k:Nat):(iq Γ g d k).gd g=d:=by simp[iq]
theorem ir {Γ:dI}{g x:Nat}{d:Gd}{k:Nat}(h:x≠g):(iq Γ g d k).gd x=Γ.gd x:=by simp[iq,h]
section
variable {c:Cx}{ops:Array Oper}{i m d f:Nat}{T:Tm}{G G':GH}{Γ Γ':dI}{st st':St}{v u:AV}{P:Program}{Φ:Forms}
theorem od {g:Nat}{dn:Gd}{k:Nat}(h:g<Γ.ng->(Γ.gd g).Le dn)(hk:Γ.ng<=k):dV Γ (iq Γ g dn k):=⟨fun b x hb=>⟨x,hb,oq.refl x⟩,fun x hx=>by
 by_cases e:x=g
 ·subst e;rw[gq];exact h hx
 ·rw[ir e];exact Gd.Le.refl _,hk⟩
theorem HT.IC (ht:HT P Φ G Γ){g:Nat}{dn:Gd}{k:Nat}(h0:0<g)(h:g<Γ.ng->(Γ.gd g).Le dn/\(Γ.gd g).fz=false)(hk:Γ.ng<=k):HT P Φ G (iq Γ g dn k):=by
 have hle:=od (k:=k) (fun e=>(h e).1) hk;refine⟨⟨by rw[ir (by omega)];exact ht.z.1,zbj ht.z.2 hk⟩,fun b x hb=>?_⟩;have hx:=ht.b b x hb;cases x with
 |cells cc g' L =>
  obtain⟨h1,h2,size,C,h3,h4,h5⟩:=hx;exact⟨⟨zbj h1.1 hk,h1.2⟩,h2,size,C,h3,h4,fun j m hj=>(h5 j m hj).le (dQ.refl _) hle h1.1⟩
 |map cc g' =>
  obtain⟨h1,es,h3,h4,h5⟩:=hx;refine⟨zbj h1 hk,es,h3,h4,?_⟩;by_cases e:g'=g
  ·subst e;obtain⟨hd,hf⟩:=h h1;obtain⟨k1,k2⟩:=h5;refine⟨k1,?_⟩;rw[gq];cases hm:Φ.mv cc with
   |kd kd=>rw[hm]at k2;exact fun p hp=>by obtain⟨fs,q1,q2⟩:=k2 p hp;exact⟨fs,q1.le hd,fun f hf=>(q2 f hf).le (dQ.refl _) hle⟩
   |unit=>rw[hm]at k2;exact k2
   |FM b=>rw[hm]at k2;have:=k2.2.1;rw[hf]at this;cases this
   |DD=>rw[hm]at k2;have:=k2.2.1;rw[hf]at this;cases this
   |kn b kd=>rw[hm]at k2;exact⟨fun p hp=>(k2.1 p hp).le (hd.n b),fun p hp=>by obtain⟨fs,q1,q2⟩:=k2.2 p hp;exact⟨fs,q1.le hd,fun f hf=>(q2 f hf).le (dQ.refl _) hle⟩⟩
  ·exact h5.le (dQ.refl _) hle (ir e)
theorem Q.IC (hq:Q c T G Γ st){g:Nat}{d0 dn:Gd}{w:Bool}{gs':List (Nat×Gd×Bool)}(hg:(g,d0,true)∈st.gs)(hle:d0.Le dn)(hw:w=true->dn.fz=false)(ham:∀b g' k,Own.am b g' k∈st.os->dn.at_=d0.at_)(hgs:∀p∈gs',p=(g,dn,w)∨(p∈st.gs/\p.1≠g)):Q c T G (iq Γ g dn Γ.ng) ⟨st.L,st.os,st.eF,gs'⟩:=by
 obtain⟨q1,q2,q3⟩:=hq.gs _ hg;obtain⟨q3,q4,q5⟩:=q3 rfl;have q1:g<Γ.ng:=q1;have q2:Γ.gd g=d0:=q2;have q4:d0.fz=false:=q4;have hl:dV Γ (iq Γ g dn Γ.ng):=od (fun _=>by rw[q2];exact hle) (zad _)
 have hr:Rl c.Φ c.S c.Sg c.G0 c.Γ0 G (iq Γ g dn Γ.ng):=by
  have r:=hq.rl;refine⟨r.g,r.r,r.t,r.le.trans hl,fun x hx hn=>?_,r.SJ,r.im⟩
  have:x≠g:=fun e=>by
   subst e;rcases q3 with h|h
   ·exact hn h
   ·have h:c.Γ0.ng<=x:=h;omega
  rw[ir this];exact r.gs x hx hn
 refine⟨hq.ml,hq.at_,hq.xU,hr,hq.grow,fun o ho=>?_,hq.new,hq.nd,hq.ht.IC q5 (fun _=>by rw[q2];exact⟨hle,q4⟩) (zad _),fun f hf=>(hq.ty f hf).le (dQ.refl _) hl,fun p hp=>?_⟩
 ·have:=hq.own o ho;cases o with
  |loc b el C=>exact this
  |jg v cc ms=>exact this
  |map b pk es=>exact this
  |ul v cc g' n =>
   obtain⟨h1,h2,h3⟩:=this;refine⟨h1,h2,?_⟩;rcases h3 with h3|⟨b,cap,size,C,k1,k2,k3,k4,k5,k6,k7⟩
   ·exact .inl h3
   ·exact .inr ⟨b,cap,size,C,k1,k2,k3,k4,k5,k6,fun j hj=>(k7 j hj).le (dQ.refl _) hl h1⟩
  |am b g' k =>
   obtain⟨h1,h2,h3,es,h4,h5,h6⟩:=this;by_cases e:g'=g
   ·subst e;have ea:=ham b g' k ho;rw[q2]at h3 h6;refine⟨h1,h2,?_,es,h4,h5,?_⟩
    ·rw[gq,ea];exact fun l n j h=>zbj (h3 l n j h) (hle.n k)
    ·rw[gq,ea];exact h6
   ·exact⟨h1,h2,by rw[ir e];exact h3,es,h4,h5,by rw[ir e];exact h6⟩
  |im b k=>exact this
  |bl v el ms=>exact this
  |km b cc g' n =>
   obtain⟨h1,h2,h3,es,h4,h5,h6,h7⟩:=this;exact⟨h1,h2,h3,es,h4,h5,h6,h7.Gw h3 (dQ.refl _) hl h2⟩
  |kq b cc g' n q =>
   obtain⟨h1,h2,h3,es,h4,h5,h6,h7,h8⟩:=this;exact⟨h1,h2,h3,es,h4,h5,h6,h7.Gw h3 (dQ.refl _) hl h2,h8⟩
  |rm v cc g' n=>exact this
  |it b m n r st ty=>exact this
 ·rcases hgs p hp with rfl|⟨h1,h2⟩
  ·exact⟨q1,gq _ _ _ _,fun h=>⟨q3,hw h,q5⟩⟩
  ·obtain⟨k1,k2,k3⟩:=hq.gs p h1;exact⟨k1,by rw[ir h2];exact k2,k3⟩
theorem Q.W6 (hq:Q c T G Γ st)(dn:Gd)(w:Bool)(hw:w=true->dn.fz=false):Q c T G (iq Γ Γ.ng dn (Γ.ng+1)) ⟨st.L,st.os,st.eF,(Γ.ng,dn,w)::st.gs⟩:=by
 have hl:dV Γ (iq Γ Γ.ng dn (Γ.ng+1)):=od (fun h=>absurd h (by omega)) (zan _)
 have hr:Rl c.Φ c.S c.Sg c.G0 c.Γ0 G (iq Γ Γ.ng dn (Γ.ng+1)):=by
  have r:=hq.rl;refine⟨r.g,r.r,r.t,r.le.trans hl,fun x hx hn=>?_,r.SJ,r.im⟩;have:=r.le.ng;rw[ir (by omega)];exact r.gs x hx hn
 refine⟨hq.ml,hq.at_,hq.xU,hr,hq.grow,fun o ho=>?_,hq.new,hq.nd,hq.ht.IC hq.ht.z.2 (fun h=>absurd h (by omega)) (zan _),fun f hf=>(hq.ty f hf).le (dQ.refl _) hl,fun p hp=>?_⟩
 ·refine (hq.own o ho).aU (S:=[]) (Sg:=[]) ⟨fun b h _ h0=>⟨rfl,h0⟩,dQ.refl _,fun b x h _ _=>h,hl,fun g hg _=>ir (by omega),fun b h=>h,fun _ _ _ _ _=>rfl⟩ (fun b _ h=>by cases h) (fun g hg=>?_) fun _ _ _ _ _=>rfl
  have:g<Γ.ng:=by
   have:=hq.own o ho;cases o<;>first|(cases hg;done)|skip
   cases hg;exact this.2.1
  exact ir (by omega)
 ·rcases List.mem_cons.1 hp with rfl|hp
  ·refine⟨by show Γ.ng<Γ.ng+1;omega,gq _ _ _ _,fun h=>⟨.inr hq.rl.le.ng,hw h,hq.ht.z.2⟩⟩
  ·obtain⟨k1,k2,k3⟩:=hq.gs p hp;exact⟨by show p.1<Γ.ng+1;omega,by rw[ir (by omega)];exact k2,k3⟩
theorem Q.conv (hq:Q c T G Γ st){osA:List Own}{o o':Own}(ho:st.os.Perm (osA++[o]))(hb:o'.aY=o.aY)(h:df c.P c.Φ G Γ o'):Q c T G Γ ⟨st.L,osA++[o'],st.eF,st.gs⟩:=by
 refine⟨hq.ml,hq.at_,hq.xU,hq.rl,hq.grow,fun x hx=>?_,fun x hx b yn=>?_,?_,hq.ht,hq.ty,hq.gs⟩
 ·rcases List.mem_append.1 hx with hx|hx
  ·exact hq.own x (ho.mem_iff.2 (by simp[hx]))
  ·rw[List.mem_singleton.1 hx];exact h
 ·rcases List.mem_append.1 hx with hx|hx
  ·exact hq.new x (ho.mem_iff.2 (by simp[hx])) b yn
  ·rw[List.mem_singleton.1 hx,hb]at yn;exact hq.new o (ho.mem_iff.2 (by simp)) b yn
 ·have:=(ho.filterMap Own.aY).nodup_iff.1 hq.nd;show (eV (osA++[o'])).Nodup
  have e:eV (osA++[o'])=eV (osA++[o]):=by
   rw[fb,fb];congr 1;show List.filterMap Own.aY [o']=List.filterMap Own.aY [o];simp only[zdx,List.filterMap_nil,hb]
  rw[e];exact this
theorem Q.W7 (hq:Q c T G Γ st){osA:List Own}{o:Own}{b:Nat}{y:Ds}{g':Gh}{tys':List TF}(ho:st.os.Perm (osA++[o]))(hb:o.aY=some b)(hm:Γ.m b=none)(hraw:∀el size C,G b≠some (.cells .raw el size C))(hdat:∀el size C,G b=some (.cells .data el size C)->∃C',g'=.cells .data el size C')
  (hds:dQ G (fx G b g')->dV Γ (updΓ Γ b y)->uD c.P c.Φ (fx G b g') (updΓ Γ b y) b y) (h4:∀f∈tys',fF c.P c.Φ (fx G b g') (updΓ Γ b y) f):Q c T (fx G b g') (updΓ Γ b y) ⟨st.L,osA,tys'++st.eF,st.gs⟩:=by
 have htold:=(hq.own o (ho.mem_iff.2 (by simp))).told hb
 have:=hq.oG (osA:=osA) (osB:=[o]) (os':=[]) (tys':=tys') (b:=b) (G':=fx G b g') (Γ':=updΓ Γ b y) ho (dP (.inl htold)) (fun k h=>updΓ_ne h) (fun k h=>dH h) (by rw[aA];rfl) hraw
  (fun el size C h=>by obtain⟨C',h'⟩:=hdat el size C h;exact⟨C',by rw[aA,h']⟩) (fun x h=>by rw[hm]at h;cases h) rfl rfl (.inl (il.2 ⟨o,by simp,hb⟩))
  (fun x hr hl h=>by rw[updΓ_same]at h;cases h;exact hds hr hl) (fun o' h=>by cases h) (by show ([]:List Nat).Nodup;simp) (fun o' h=>by cases h) (fun f h _ _=>h4 f h) (fun _ _ h=>by rw[hm]at h;cases h)
 exact this.iW (fun _ _ h=>h) ⟨[],by simp⟩ (fun f h=>h) (fun p h=>h)
theorem A5 {b:Nat}{g:Gh}(h:G b=some g):fx G b g=G:=by
 funext k
 by_cases e:k=b
 ·subst e;rw[aA,h]
 ·rw[dH e]
def W8:K2->K2->Bool
 |.sl q,.AE q'=>Nat.beq q q'
 |.AD q _,.AE q'=>Nat.beq q q'
 |_,_=>false
theorem QC {a b:K2}(h:W8 a b=true):∃q,(a=.sl q∨∃n,a=.AD q n)/\b=.AE q:=by
 cases a<;>cases b<;>first|(cases h;done)|skip
 ·have:=aj h;subst this;exact⟨_,.inl rfl,rfl⟩
 ·have:=aj h;subst this;exact⟨_,.inr ⟨_,rfl⟩,rfl⟩
def TM:List K2->List K2->Bool
 | [],[]=>true
 |k::ks,k'::ks'=>bif Rd.Qy k k' then TM ks ks' else (W8 k k'&&Rd.SR ks ks')
 |_,_=>false
theorem ID {d0:Gd}{g j:Nat}:∀{ks ks':List K2}{cs:List AV}{fs:List TF},TM ks ks'=true->iz Φ d0 g j ks cs fs->∃n:Nat,∀dn:Gd,d0.Le dn->dn.fz=true->dn.fl j=n->iz Φ dn g j ks' cs fs
 | [],[],_,_,_,h=>⟨0,fun dn _ _ _=>h⟩
 |k::ks,k'::ks',_,_,ht,⟨v,cs',f,fs',h1,h2,h3,h4⟩=>by
  have ht:(bif Rd.Qy k k' then TM ks ks' else (W8 k k'&&Rd.SR ks ks'))=true:=ht;cases hb:Rd.Qy k k' with
  |true =>
   rw[hb]at ht;have:=Rd.Iw hb;subst this;obtain⟨n,hn⟩:=ID ht h4;exact⟨n,fun dn a1 a2 a3=>⟨v,cs',f,fs',h1,h2,h3.le a1,hn dn a1 a2 a3⟩⟩
  |false =>
   rw[hb]at ht;simp only[cond_false]at ht;rw[za]at ht;obtain⟨q,e0,e1⟩:=QC ht.1;have e2:=Rd.CJ ht.2;subst e1 e2
   obtain⟨ns,hf⟩:∃ns,f=[.sl v q (gi Φ d0 g q) ns]:=by
    rcases e0 with e0|⟨n,e0⟩
    ·subst e0;exact h3
    ·subst e0;obtain⟨ns,hf,_⟩:=h3;exact⟨ns,hf⟩
   exact⟨ns.length,fun dn a1 a2 a3=>⟨v,cs',f,fs',h1,h2,⟨ns,by rw[ss a1];exact hf,a2,a3.symm⟩,h4.le a1⟩⟩
 | [],_::_,_,_,h,_=>by cases h
 |_::_,[],_,_,h,_=>by cases h
end
end Go.Rt
namespace Go.Rd
open Go.aK Go.RowKit Go.Rt
inductive An where
 |no|ty (c g:Nat)|ul (c g:Nat)|em (pk:KK)|im|bl|km (c g:Nat)|kq (c g:Nat)
def D1 (n:Nat)(l:List SC):List SC:=match n with|0=>[]|n+1=>l++D1 n l
theorem wN (ρ:bm)(l:List SC):∀n,aD ρ (D1 n l)=gY n (aD ρ l)
 |0=>rfl
 |n+1=>by
  show aD ρ (l++D1 n l)=aD ρ l++gY n (aD ρ l);rw[<-wN ρ l n];simp[aD]
section
variable {c:Cx}{T:Tm}{G:GH}{Γ:dI}{ρ ρ':bm}{s s':SS}{cf:Cf}{ops:Array Oper}{i d:Nat}
def W9 (cf:Cf)(t:TypeId)(len:Nat)(ps:List (Nat×Operand))(d:Nat)(an:An)(s:SS)(K:SS->R):R:=match cf.P.underlying t with
 |some (.slice e)=>(match ((zeroOf cf.P e).bind tg).bind dY,rA s ps with
  |some z,some l=>bif Nat.ble len 10000&&(Nat.ble (af cf.P e) 1000&&(Nat.beq z.length (af cf.P e)&&Nat.blt 0 (af cf.P e)))then
   (match sy (fun i=>some (i*af cf.P e,af cf.P e)) (AR l) (D1 len z)with
    |some cs=>bif Nat.beq cs.length (len*af cf.P e)&&uE s.nx cs then
     (match an with
      |.no=>fresh s fun b s=>K (eG (fN s (.loc b e cs)) d (sc (.wA b len)))
      |.ty cc g=>bif Nat.beq (cf.Φ.ty cc) e&&(uQ s g&&(bG s.nx g&&!cf.Φ.raw cc))then
       (match FZ cf s g cc (af cf.P e) (.k 0) len cs with
        |some ls=>bif (!cf.Φ.fV cc||ls.all (fun e=>aX s ((LE.k WU).sub e)))&&(yo ls).lt s.nx then
         fresh s fun x s=>K (eG (bif cf.Φ.fV cc then n9 (bL s (.sl x cc g)) (.a (.len x)) (.k len)else n9 (n9 (bL s (.sl x cc g)) (.a (.len x)) (.k len)) (.a (.wt x)) (yo ls)) d (sc (.ref x)))
         else .bad 160 s
        |none=>.bad 161 s)
       else .bad 162 s
      |_=>.bad 163 s)
     else .bad 164 s
    |none=>.bad 165 s)
   else .bad 166 s
  |_,_=>.bad 167 s)
 |_=>.bad 168 s
theorem QD {t:TypeId}{len:Nat}{ps:Array (Nat×Operand)}{an:An}{K:SS->R}(ho:(ae ops i).op=.buildSlice t len ps)(hg:(ae ops i).guard=none)(hd:(ae ops i).dst=some d)(hlt:d<c.nt)(hP:cf.P=c.P)(hΦ:cf.Φ=c.Φ)(h:(W9 cf t len ps.toList d an s K).Ok)(hk:Ok c T G Γ ρ s):Hv c T G Γ ops i s ρ K:=by
 unfold W9 at h;rw[hP,hΦ]at h;split at h
 ·rename_i e hu;split at h
  ·rename_i z l hz hl;cases hb:(Nat.ble len 10000&&(Nat.ble (af c.P e) 1000&&(Nat.beq z.length (af c.P e)&&Nat.blt 0 (af c.P e))))with
   |false=>rw[hb]at h;cases h
   |true =>
    rw[hb]at h;simp only[cond_true]at h;cases hzz:zeroOf c.P e with
    |none=>rw[hzz]at hz;cases hz
    |some zz =>
     rw[hzz]at hz;simp only[zcr]at hz;cases hv:tg zz with
     |none=>rw[hv]at hz;cases hz
     |some w =>
      rw[hv]at hz;have hz:dY w=some z:=hz;have e1:zz.cells=aD ρ z:=by rw[<-kD hv ρ];exact gk hz ρ
      have e1l:zz.cells.length=z.length:=by rw[e1];simp[aD]
      split at h
      ·rename_i cs hf;cases hb2:(Nat.beq cs.length (len*af c.P e)&&uE s.nx cs)with
       |false=>rw[hb2]at h;cases h
       |true =>
        rw[hb2]at h;simp only[cond_true]at h;rw[za]at hb2;obtain⟨p1,p2⟩:=n6 hk.q hl;have hfill:=qD hf p2;rw[wN,<-e1]at hfill;have kL:(aD ρ cs).length=cs.length:=by simp[aD]
        have hcs:=aj hb2.1;have hgz:(Nat.ble len 10000&&(Nat.ble (af c.P e) 1000&&(Nat.beq zz.cells.length (af c.P e)&&Nat.blt 0 (af c.P e))))=true:=by rw[e1l];exact hb
        split at h
        ·refine fI.sB .loc hg hd hlt ho hu hzz hgz p1 hfill (gj _ _) (by rw[kL];exact hcs) fun b hb hb'=>⟨rfl,rfl,?_⟩;obtain⟨h1,h2,h3,h4⟩:=az h hk (.n b);refine⟨Γ,_,_,h1,h2,zan _,?_⟩;have e1:(ρ.up s.nx (.n b) s.nx).nn=b:=by rw[h4];rfl
         have e2:aD (ρ.up s.nx (.n b)) cs=aD ρ cs:=lu h2 hb2.2;have q:=h3.q.AX hb hb' (.loc b e (aD ρ cs)) rfl ⟨aA _ _ _,h3.q.ht.none hb'⟩
         have hq:Q c T (fx G b (.cells .loc e (aD ρ cs).length (aD ρ cs))) Γ ((fN (aC s) (.loc s.nx e cs)).den (ρ.up s.nx (.n b))):=by
          have:(fN (aC s) (.loc s.nx e cs)).den (ρ.up s.nx (.n b))=⟨((aC s).den (ρ.up s.nx (.n b))).L,.loc b e (aD ρ cs)::((aC s).den (ρ.up s.nx (.n b))).os,((aC s).den (ρ.up s.nx (.n b))).eF,((aC s).den (ρ.up s.nx (.n b))).gs⟩:=by
           unfold fN SS.den;simp only[zal,SO.den,e1,e2]
          rw[this];exact q
         have ok1:Ok c T (fx G b (.cells .loc e (aD ρ cs).length (aD ρ cs))) Γ (ρ.up s.nx (.n b)) (fN (aC s) (.loc s.nx e cs)):=⟨⟨h3.sat.fs,h3.sat.bs,h3.sat.pw,h3.sat.ats,h3.sat.dB,h3.sat.ne,h3.sat.fz,h3.sat.sb⟩,hq⟩;have:=ok1.put (v:=sc (.wA s.nx len)) d;rw[show (sc (.wA s.nx len)).den (ρ.up s.nx (.n b))=.dx b 0 len len by show AV.dx (ρ.up s.nx (.n b) s.nx).nn 0 len len=_;rw[e1]]at this;exact this
        ·rename_i cc g;cases hb3:(Nat.beq (c.Φ.ty cc) e&&(uQ s g&&(bG s.nx g&&!c.Φ.raw cc)))with
         |false=>rw[hb3]at h;cases h
         |true =>
          rw[hb3]at h;simp only[cond_true]at h;simp only[za,zam]at hb3;obtain⟨b1,b2,b3,hrw⟩:=hb3;have b1:=aj b1;subst b1;cases hel:FZ cf s g cc (af c.P (c.Φ.ty cc)) (.k 0) len cs with
          |none=>rw[hel]at h;cases h
          |some ls =>
           rw[hel]at h;simp only at h;cases hb4:((!c.Φ.fV cc||ls.all (fun e=>aX s ((LE.k WU).sub e)))&&(yo ls).lt s.nx)with
           |false=>rw[hb4]at h;cases h
           |true =>
            rw[hb4]at h;simp only[cond_true]at h;rw[za]at hb4;obtain⟨ns,k1,k2,k3,k4⟩:=yp hΦ hk hel (by rw[LE.bk];exact zby _) rfl;have hz0:((LE.k 0).ev ρ).toNat=0:=by rw[LE.bk];rfl
            rw[hz0]at k3
            -- the labels
            obtain⟨L,m1,m2,m3,m4⟩:∃L:List Nat,L.length=len/\(c.Φ.fV cc=true->∀m∈L,m=WU)/\(∀j m,L[j]?=some m->eY c.P c.Φ G Γ m cc (ig ρ g) j (((aD ρ cs).drop (j*af c.P (c.Φ.ty cc))).take (af c.P (c.Φ.ty cc))))/\(c.Φ.fV cc=false->L=ns):=by
             cases hun:c.Φ.fV cc with
             |false=>exact⟨ns,k1,fun h=>(by cases h),fun j m hj=>by have:=k3 j m hj;rwa[zap]at this,fun _=>rfl⟩
             |true =>
              refine⟨List.replicate len WU,by simp,fun _ m hm=>zbv hm,fun j m hj=>?_,fun h=>by cases h⟩;have hm:=zbv (zaw hj);have hjl:=(List.getElem?_eq_some_iff.1 hj).1;rw[zai,<-k1]at hjl;subst hm;have:=k3 j _ (zaj hjl);rw[zap]at this;refine this.more ?_;obtain⟨e0,e01,e02⟩:=k4 _ (zcp hjl);rw[hun]at hb4;simp only[zd,zcs]at hb4;have:=av (List.all_eq_true.1 hb4.1 e0 e01) hk.sat;rw[LE.au,LE.bk,e02]at this;omega
            have hlim:L.length<=ma:=by
             rw[m1];simp only[za]at hb;have:=aN hb.1;unfold ma;omega
            refine fI.sB .data hg hd hlt ho hu hzz hgz p1 hfill (gj _ _) (by rw[kL];exact hcs) fun b hb hb'=>⟨rfl,rfl,?_⟩
            have hq:=hk.q.Qq (cc:=cc) (g:=ig ρ g) (L:=L) (size:=(aD ρ cs).length) (C:=aD ρ cs) (tys':=[.sl (.dx b 0 len len) cc (ig ρ g) L]) hb hb' (kH b2 hk) hrw m2 (by rw[kL,hcs,m1]) m3 (fun f hf=>by
             rw[List.mem_singleton.1 hf]
             exact⟨hlim,.inr (.inr ⟨b,len,L,(aD ρ cs).length,aD ρ cs,by rw[m1],updΓ_same _ _ _,(zcl).symm,aA _ _ _,by rw[kL,hcs];exact zad _,by rw[m1];exact zad _⟩)⟩)
            have fin:∀K2:Nat->SS->R,(fresh s K2).Ok->∃ρ',(K2 s.nx (aC s)).Ok/\dh s.nx ρ ρ'/\Ok c T (fx G b (.cells .data (c.Φ.ty cc) (aD ρ cs).length (aD ρ cs))) (updΓ Γ b (.cells cc (ig ρ g) L)) ρ' (n9 (bL (aC s) (.sl s.nx cc g)) (.a (.len s.nx)) (.k len))/\(ρ' s.nx).vv=.dx b 0 len len/\(ρ' s.nx).ns=L:=fun K2 h=>by
             obtain⟨r1,r2,r3,r4⟩:=az h hk (.v (.dx b 0 len len) L);have hv':(ρ.up s.nx (.v (.dx b 0 len len) L) s.nx).vv=.dx b 0 len len:=by rw[r4];rfl
             have hn':(ρ.up s.nx (.v (.dx b 0 len len) L) s.nx).ns=L:=by rw[r4];exact U.lr hlim
             have eD:=(SS.cg (dK h) r2).1;refine⟨_,r1,r2,Ok.n9 ⟨⟨r3.sat.fs,r3.sat.bs,r3.sat.pw,r3.sat.ats,r3.sat.dB,r3.sat.ne,r3.sat.fz,r3.sat.sb⟩,?_⟩ ?_,hv',hn'⟩
             ·have:(bL (aC s) (.sl s.nx cc g)).den (ρ.up s.nx (.v (.dx b 0 len len) L))=⟨(s.den ρ).L,(s.den ρ).os,.sl (.dx b 0 len len) cc (ig ρ g) L::(s.den ρ).eF,(s.den ρ).gs⟩:=by
                refine St.ext' (by have:=congrArg St.L eD;exact this) (by have:=congrArg St.os eD;exact this) ?_ (by have:=congrArg St.gs eD;exact this);show dW.den _ (.sl s.nx cc g)::s.ty.map (dW.den _)=_;rw[show s.ty.map (dW.den (ρ.up s.nx (.v (.dx b 0 len len) L)))=(s.den ρ).eF from congrArg St.eF eD];simp only[dW.den];rw[hv',hn',bR r2 b3]
              rw[this];exact hq
             ·rw[LE.aV,LE.bk];show (((ρ.up s.nx (.v (.dx b 0 len len) L) s.nx).ns.length:Nat):Int)=_;rw[hn',m1]
            obtain⟨ρ',r1,r2,r3,r4,r5⟩:=fin _ h;refine⟨updΓ Γ b (.cells cc (ig ρ g) L),ρ',_,r1,r2,by cases c.Φ.fV cc<;>exact zan _,?_⟩
            cases hun:c.Φ.fV cc with
            |true =>
             have:=r3.put (v:=sc (.ref s.nx)) d;rw[show (sc (.ref s.nx)).den ρ'=.dx b 0 len len from r4]at this;exact this
            |false =>
             have:=(r3.n9 (a:=.a (.wt s.nx)) (b:=yo ls) (by
              rw[LE.aV,LE.cg r2 hb4.2,<-k2];show (((ρ' s.nx).ns.sum+(ρ' s.nx).ns.length:Nat):Int)=_
              rw[r5,m4 hun])).put (v:=sc (.ref s.nx)) d
             rw[show (sc (.ref s.nx)).den ρ'=.dx b 0 len len from r4]at this;exact this
        ·cases h
      ·cases h
  ·cases h
 ·cases h
def zJ (cf:Cf)(d:Nat)(an:An)(s:SS)(K:SS->R):R:=match an with
 |.em pk=>fresh s fun b s=>K (eG (fN s (.em b pk)) d (sc (.cV b)))
 |.im=>fresh s fun b s=>K (eG (fN s (.im b (.k 0))) d (sc (.cV b)))
 |.ty cc g=>(match cf.Φ.mv cc with
  |.kd _=>bif uQ s g&&bG s.nx g then fresh s fun x s=>K (eG (bL s (.mp x cc g)) d (sc (.ref x)))else .bad 170 s
  |.unit=>bif uQ s g&&bG s.nx g then fresh s fun x s=>K (eG (bL s (.mp x cc g)) d (sc (.ref x)))else .bad 170 s
  |_=>.bad 171 s)
 |.km cc g=>bif JQ (cf.Φ.mv cc)&&(uQ s g&&bG s.nx g)then fresh s fun b s=>K (eG (fN s (.km b cc g (.k 0))) d (sc (.cV b)))else .bad 173 s
 |.kq cc g=>bif JQ (cf.Φ.mv cc)&&(uQ s g&&bG s.nx g)then fresh s fun b s=>K (eG (fN s (.kq b cc g (.k 0) none)) d (sc (.cV b)))else .bad 173 s
 |_=>.bad 172 s
theorem QE {t:TypeId}{an:An}{K:SS->R}(ho:(ae ops i).op=.makeMap t none)(hg:(ae ops i).guard=none)(hd:(ae ops i).dst=some d)(hlt:d<c.nt)(hP:cf.P=c.P)(hΦ:cf.Φ=c.Φ)(h:(zJ cf d an s K).Ok)(hk:Ok c T G Γ ρ s):Hv c T G Γ ops i s ρ K:=by
 unfold zJ at h;rw[hΦ]at h;split at h
 ·rename_i pk;refine fI.AA hg hd hlt ho fun b hb hb'=>⟨rfl,rfl,?_⟩;obtain⟨h1,h2,h3,h4⟩:=az h hk (.n b);have e1:(ρ.up s.nx (.n b) s.nx).nn=b:=by rw[h4];rfl
  have q:=h3.q.AX (g:=.map []) hb hb' (.map b pk []) rfl ⟨aA _ _ _,h3.q.ht.none hb',fun p hp=>by cases hp⟩;refine⟨Γ,_,_,h1,h2,zan _,?_⟩
  have ok1:Ok c T (fx G b (.map [])) Γ (ρ.up s.nx (.n b)) (fN (aC s) (.em s.nx pk)):=⟨⟨h3.sat.fs,h3.sat.bs,h3.sat.pw,h3.sat.ats,h3.sat.dB,h3.sat.ne,h3.sat.fz,h3.sat.sb⟩,by
   have:(fN (aC s) (.em s.nx pk)).den (ρ.up s.nx (.n b))=⟨((aC s).den (ρ.up s.nx (.n b))).L,.map b pk []::((aC s).den (ρ.up s.nx (.n b))).os,((aC s).den (ρ.up s.nx (.n b))).eF,((aC s).den (ρ.up s.nx (.n b))).gs⟩:=by
    unfold fN SS.den;simp only[zal,SO.den,e1]
   rw[this];exact q⟩
  have:=ok1.put (v:=sc (.cV s.nx)) d;rw[show (sc (.cV s.nx)).den (ρ.up s.nx (.n b))=.cV b by show AV.cV (ρ.up s.nx (.n b) s.nx).nn=_;rw[e1]]at this;exact this
 ·refine fI.AA hg hd hlt ho fun b hb hb'=>⟨rfl,rfl,?_⟩;obtain⟨h1,h2,h3,h4⟩:=az h hk (.n b);have e1:(ρ.up s.nx (.n b) s.nx).nn=b:=by rw[h4];rfl
  have q:=h3.q.AX (g:=.map []) hb hb' (.im b 0) rfl ⟨h3.q.ht.none hb',[],aA _ _ _,fun p hp=>by cases hp⟩;refine⟨Γ,_,_,h1,h2,zan _,?_⟩
  have ok1:Ok c T (fx G b (.map [])) Γ (ρ.up s.nx (.n b)) (fN (aC s) (.im s.nx (.k 0))):=⟨⟨h3.sat.fs,h3.sat.bs,h3.sat.pw,h3.sat.ats,h3.sat.dB,h3.sat.ne,h3.sat.fz,h3.sat.sb⟩,by
   have:(fN (aC s) (.im s.nx (.k 0))).den (ρ.up s.nx (.n b))=⟨((aC s).den (ρ.up s.nx (.n b))).L,.im b 0::((aC s).den (ρ.up s.nx (.n b))).os,((aC s).den (ρ.up s.nx (.n b))).eF,((aC s).den (ρ.up s.nx (.n b))).gs⟩:=by
    unfold fN SS.den;simp only[zal,SO.den,e1,LE.bk];rfl
   rw[this];exact q⟩
  have:=ok1.put (v:=sc (.cV s.nx)) d;rw[show (sc (.cV s.nx)).den (ρ.up s.nx (.n b))=.cV b by show AV.cV (ρ.up s.nx (.n b) s.nx).nn=_;rw[e1]]at this;exact this
 ·rename_i cc g
  have key:dA c.P c.Φ G Γ cc (ig ρ g) []->((bif uQ s g&&bG s.nx g then fresh s fun x s=>K (eG (bL s (.mp x cc g)) d (sc (.ref x)))else .bad 170 s)).Ok->Hv c T G Γ ops i s ρ K:=fun hm h=>by
   cases hb:(uQ s g&&bG s.nx g)with
   |false=>rw[hb]at h;cases h
   |true =>
    rw[hb]at h;simp only[cond_true]at h;rw[za]at hb;refine fI.AA hg hd hlt ho fun b hb1 hb'=>⟨rfl,rfl,?_⟩;have q:=hk.q.W0 (cc:=cc) (g:=ig ρ g) (tys':=[.mp (.cV b) cc (ig ρ g)]) hb1 hb' (kH hb.1 hk) hm (fun f hf=>by rw[List.mem_singleton.1 hf];exact⟨b,rfl,updΓ_same _ _ _⟩);obtain⟨r1,r2,r3,r4⟩:=az h hk (.v (.cV b) []);have hv':(ρ.up s.nx (.v (.cV b) []) s.nx).vv=.cV b:=by rw[r4];rfl
    have eD:=(SS.cg (dK h) r2).1;refine⟨updΓ Γ b (.map cc (ig ρ g)),ρ.up s.nx (.v (.cV b) []),eG (bL (aC s) (.mp s.nx cc g)) d (sc (.ref s.nx)),r1,r2,zan _,?_⟩
    have ok1:Ok c T (fx G b (.map [])) (updΓ Γ b (.map cc (ig ρ g))) (ρ.up s.nx (.v (.cV b) [])) (bL (aC s) (.mp s.nx cc g)):=⟨⟨r3.sat.fs,r3.sat.bs,r3.sat.pw,r3.sat.ats,r3.sat.dB,r3.sat.ne,r3.sat.fz,r3.sat.sb⟩,by
     have:(bL (aC s) (.mp s.nx cc g)).den (ρ.up s.nx (.v (.cV b) []))=⟨(s.den ρ).L,(s.den ρ).os,.mp (.cV b) cc (ig ρ g)::(s.den ρ).eF,(s.den ρ).gs⟩:=by
      refine St.ext' (by have:=congrArg St.L eD;exact this) (by have:=congrArg St.os eD;exact this) ?_ (by have:=congrArg St.gs eD;exact this);show dW.den _ (.mp s.nx cc g)::s.ty.map (dW.den _)=_;rw[show s.ty.map (dW.den (ρ.up s.nx (.v (.cV b) [])))=(s.den ρ).eF from congrArg St.eF eD];simp only[dW.den];rw[hv',bR r2 hb.2]
     rw[this];exact q⟩
    have:=ok1.put (v:=sc (.ref s.nx)) d;rw[show (sc (.ref s.nx)).den (ρ.up s.nx (.v (.cV b) []))=.cV b from hv']at this;exact this
  split at h
  ·rename_i kd hm;exact key (by unfold dA;rw[hm];exact⟨fun p hp=>(by cases hp),fun p hp=>(by cases hp)⟩) h
  ·rename_i hm;exact key (by unfold dA;rw[hm];exact⟨fun p hp=>(by cases hp),fun p hp=>(by cases hp)⟩) h
  ·cases h
 ·rename_i cc g;cases hb:(JQ (c.Φ.mv cc)&&(uQ s g&&bG s.nx g))with
  |false=>rw[hb]at h;cases h
  |true =>
   rw[hb]at h;simp only[cond_true]at h;simp only[za]at hb;refine fI.AA hg hd hlt ho fun b hb1 hb'=>⟨rfl,rfl,?_⟩;obtain⟨h1,h2,h3,h4⟩:=az h hk (.n b);have e1:(ρ.up s.nx (.n b) s.nx).nn=b:=by rw[h4];rfl
   have eg:ig (ρ.up s.nx (.n b)) g=ig ρ g:=bR h2 hb.2.2
   have hm:dA c.P c.Φ (fx G b (.map [])) Γ cc (ig ρ g) []:=by
    unfold dA;refine⟨fun p hp=>(by cases hp),?_⟩;have:=hb.1;cases hmv:c.Φ.mv cc with
    |kd k=>exact fun p hp=>by cases hp
    |unit=>exact fun p hp=>by cases hp
    |FM b=>rw[hmv]at this;cases this
    |DD=>rw[hmv]at this;cases this
    |kn b k=>exact⟨fun p hp=>(by cases hp),fun p hp=>(by cases hp)⟩
   have q:=h3.q.AX (g:=.map []) hb1 hb' (.km b cc (ig ρ g) 0) rfl ⟨h3.q.ht.none hb',kH hb.2.1 hk,hb.1,[],aA _ _ _,rfl,(fun p hp=>by cases hp),hm⟩;refine⟨Γ,_,_,h1,h2,zan _,?_⟩
   have ok1:Ok c T (fx G b (.map [])) Γ (ρ.up s.nx (.n b)) (fN (aC s) (.km s.nx cc g (.k 0))):=⟨⟨h3.sat.fs,h3.sat.bs,h3.sat.pw,h3.sat.ats,h3.sat.dB,h3.sat.ne,h3.sat.fz,h3.sat.sb⟩,by
    have:(fN (aC s) (.km s.nx cc g (.k 0))).den (ρ.up s.nx (.n b))=⟨((aC s).den (ρ.up s.nx (.n b))).L,.km b cc (ig ρ g) 0::((aC s).den (ρ.up s.nx (.n b))).os,((aC s).den (ρ.up s.nx (.n b))).eF,((aC s).den (ρ.up s.nx (.n b))).gs⟩:=by
     unfold fN SS.den;simp only[zal,SO.den,e1,eg,LE.bk];rfl
    rw[this];exact q⟩
   have:=ok1.put (v:=sc (.cV s.nx)) d;rw[show (sc (.cV s.nx)).den (ρ.up s.nx (.n b))=.cV b by show AV.cV (ρ.up s.nx (.n b) s.nx).nn=_;rw[e1]]at this;exact this
 ·rename_i cc g;cases hb:(JQ (c.Φ.mv cc)&&(uQ s g&&bG s.nx g))with
  |false=>rw[hb]at h;cases h
  |true =>
   rw[hb]at h;simp only[cond_true]at h;simp only[za]at hb;refine fI.AA hg hd hlt ho fun b hb1 hb'=>⟨rfl,rfl,?_⟩;obtain⟨h1,h2,h3,h4⟩:=az h hk (.n b);have e1:(ρ.up s.nx (.n b) s.nx).nn=b:=by rw[h4];rfl
   have eg:ig (ρ.up s.nx (.n b)) g=ig ρ g:=bR h2 hb.2.2
   have hm:dA c.P c.Φ (fx G b (.map [])) Γ cc (ig ρ g) []:=by
    unfold dA;refine⟨fun p hp=>(by cases hp),?_⟩;have:=hb.1;cases hmv:c.Φ.mv cc with
    |kd k=>exact fun p hp=>by cases hp
    |unit=>exact fun p hp=>by cases hp
    |FM b=>rw[hmv]at this;cases this
    |DD=>rw[hmv]at this;cases this
    |kn b k=>exact⟨fun p hp=>(by cases hp),fun p hp=>(by cases hp)⟩
   have q:=h3.q.AX (g:=.map []) hb1 hb' (.kq b cc (ig ρ g) 0 none) rfl ⟨h3.q.ht.none hb',kH hb.2.1 hk,hb.1,[],aA _ _ _,rfl,(fun p hp=>by cases hp),hm,List.Pairwise.nil,fun k r hq=>(by cases hq)⟩;refine⟨Γ,_,_,h1,h2,zan _,?_⟩
   have ok1:Ok c T (fx G b (.map [])) Γ (ρ.up s.nx (.n b)) (fN (aC s) (.kq s.nx cc g (.k 0) none)):=⟨⟨h3.sat.fs,h3.sat.bs,h3.sat.pw,h3.sat.ats,h3.sat.dB,h3.sat.ne,h3.sat.fz,h3.sat.sb⟩,by
    have:(fN (aC s) (.kq s.nx cc g (.k 0) none)).den (ρ.up s.nx (.n b))=⟨((aC s).den (ρ.up s.nx (.n b))).L,.kq b cc (ig ρ g) 0 none::((aC s).den (ρ.up s.nx (.n b))).os,((aC s).den (ρ.up s.nx (.n b))).eF,((aC s).den (ρ.up s.nx (.n b))).gs⟩:=by
     unfold fN SS.den;simp only[zal,SO.den,e1,eg,LE.bk];rfl
    rw[this];exact q⟩
   have:=ok1.put (v:=sc (.cV s.nx)) d;rw[show (sc (.cV s.nx)).den (ρ.up s.nx (.n b))=.cV b by show AV.cV (ρ.up s.nx (.n b) s.nx).nn=_;rw[e1]]at this;exact this
 ·cases h
end
end Go.Rd
namespace Go.Rd
open Go.aK Go.RowKit Go.Rt
def mD (f:SO->Bool):List SO->Option (SO×List SO)
 | []=>none
 |o::l=>bif f o then some (o,l)else (mD f l).map fun p=>(p.1,o::p.2)
theorem eK {f:SO->Bool}:∀{l l':List SO}{o:SO},mD f l=some (o,l')->f o=true/\l.Perm (l'++[o])
 | [],_,_,h=>by cases h
 |x::l,l',o,h=>by
  have h:(bif f x then some (x,l)else (mD f l).map fun p=>(p.1,x::p.2))=some (o,l'):=h;cases hb:f x with
  |true=>rw[hb]at h;cases h;exact⟨hb,(zcg _ _).symm⟩
  |false =>
   rw[hb]at h;cases hr:mD f l with
   |none=>rw[hr]at h;cases h
   |some p =>
    rw[hr]at h;cases h;obtain⟨h1,h2⟩:=eK (o:=p.1) (l':=p.2) hr;exact⟨h1,h2.cons _⟩
def F2 (x:Nat):SO->Bool|.ul y _ _=>Nat.beq y x|_=>false
def QF (x:Nat):SO->Bool|.bl y _ _=>Nat.beq y x|_=>false
theorem K1 {x:Nat}{o:SO}(h:F2 x o=true):∃c g,o=.ul x c g:=by
 cases o<;>first|(cases h;done)|skip
 have:=aj h;subst this;exact⟨_,_,rfl⟩
def F1 (cf:Cf)(e:TypeId)(d cc g:Nat)(osA:List SO)(len:LE)(u:SV)(s:SS)(K:SS->R):R:=bif Nat.beq (cf.Φ.ty cc) e&&cf.Φ.fV cc then
    (match A1 cf s cc g len u with
     |some (n,_)=>bif aX s ((LE.k (CK cf.P e)).sub (len.add n))&&((len.add n).lt s.nx&&(bG s.nx g&&osA.all (SO.lt s.nx)))then
      fresh s fun x s=>K (eG (n9 (c6 s (osA++[.ul x cc g])) (.a (.len x)) (len.add n)) d (sc (.ref x)))
      else .bad 180 s
     |none=>.bad 181 s)
 else .bad 182 s
def QG (cf:Cf)(ts tx:TypeId)(d:Nat)(v u:SV)(an:An)(s:SS)(K:SS->R):R:=match CM cf.P ts tx,v,an with
 |some e,.v false [.ab],.ul cc g=>bif uQ s g then F1 cf e d cc g s.os (.k 0) u s K else .bad 183 s
 |some e,.v false [.ref x],an=>(match mD (F2 x) s.os with
  |some (.ul _ cc g,osA)=>F1 cf e d cc g osA (.a (.len x)) u s K
  |_=>pD cf ts tx d v u (match an with|.ty cc g=>some (cc,g)|_=>none) s K)
 |_,_,.ty cc g=>pD cf ts tx d v u (some (cc,g)) s K
 |_,_,_=>pD cf ts tx d v u none s K
def MX (cf:Cf)(t:TypeId)(d:Nat)(v u:SV)(an:An)(s:SS)(K:SS->R):R:=match v,u,cf.P.underlying t with
 |.v false [.int k e],.v false [.int k' e'],some (.slice el)=>bif fK k&&(fK k'&&(e.same e'&&(aX s e&&(aX s ((LE.k 16777216).sub e)&&e.lt s.nx))))then
  (match ((zeroOf cf.P el).bind tg).bind dY with
   |some z=>bif Nat.beq z.length (af cf.P el)&&(Nat.ble (af cf.P el) 1000&&(Nat.blt 0 (af cf.P el)&&Nat.ble (cf.P.bytesOf el) 1000000))then
    (match an with
     |.ty cc g=>bif Nat.beq (cf.Φ.ty cc) el&&(cf.Φ.fV cc&&(uQ s g&&(bG s.nx g&&((cf.Φ.ks cc).all TJ&&!cf.Φ.raw cc))))then
      (match rD cf s g (ghost s.gs g) (.k 0) (cf.Φ.ks cc) z with
       |some os=>bif aX s ((LE.k WU).sub (ji os))then fresh s fun x s=>K (eG (n9 (bL s (.sl x cc g)) (.a (.len x)) e) d (sc (.ref x)))else .bad 184 s
       |none=>.bad 185 s)
      else .bad 186 s
     |.bl=>(match z with
      | [.bool (.k false)]=>fresh s fun x s=>K (eG (n9 (n9 (c6 s (.bl x x el::s.os)) (.a (.len x)) e) (.a (.wt x)) (e.js 2)) d (sc (.ref x)))
      |_=>.bad 187 s)
     |_=>.bad 188 s)
    else .bad 189 s
   |none=>.bad 190 s)
  else .bad 191 s
 |_,_,_=>.bad 192 s
section
variable {c:Cx}{T:Tm}{G:GH}{Γ:dI}{ρ ρ':bm}{s s':SS}{cf:Cf}{ops:Array Oper}{i d:Nat}
theorem dR {l l':List SO}(h:l.Perm l')(ρ:bm):(l.map (SO.den ρ)).Perm (l'.map (SO.den ρ)):=h.map _
theorem D2 {cl:Call}{ts tx e:TypeId}{ys yx:Operand}{cc g n:Nat}{osA:List SO}{len:LE}{v u:SV}{K:SS->R}(hg:(ae ops i).guard=none)(hd:(ae ops i).dst=some d)(hlt:d<c.nt)(ho:(ae ops i).op=.call cl)(hc:cl.callee=.builtin .append)(ht:cl.argTypes.toList=[ts,tx])(hx:cl.args.toList=[ys,yx])
  (hP:cf.P=c.P) (hΦ:cf.Φ=c.Φ) (pD:CM c.P ts tx=some e) (h:(F1 cf e d cc g osA len u s K).Ok) (hk:Ok c T G Γ ρ s) (hv:a9 c.nt T ys (v.den ρ)) (hu:a9 c.nt T yx (u.den ρ)) (hq:Q c T G Γ ⟨(s.den ρ).L,osA.map (SO.den ρ)++[.ul (v.den ρ) cc (ig ρ g) n],(s.den ρ).eF,(s.den ρ).gs⟩) (hl:len.ev ρ=(n:Int)):Hv c T G Γ ops i s ρ K:=by
 unfold F1 at h;rw[hP,hΦ]at h;cases hb:(Nat.beq (c.Φ.ty cc) e&&c.Φ.fV cc)with
 |false=>rw[hb]at h;cases h
 |true =>
  rw[hb]at h;rw[za]at hb;obtain⟨hb,hun⟩:=hb;have hb:=aj hb;subst hb;simp only[cond_true]at h;cases hsr:A1 cf s cc g len u with
  |none=>rw[hsr]at h;cases h
  |some p =>
   obtain⟨k,w⟩:=p;rw[hsr]at h;simp only at h;cases hf:(aX s ((LE.k (CK c.P (c.Φ.ty cc))).sub (len.add k))&&((len.add k).lt s.nx&&(bG s.nx g&&osA.all (SO.lt s.nx))))with
   |false=>rw[hf]at h;cases h
   |true =>
    rw[hf]at h;simp only[cond_true]at h;simp only[za]at hf;obtain⟨f1,f2,f3,f4⟩:=hf;obtain⟨h1,⟨e',h2⟩,zz,h3,h4⟩:=yu pD;have h5:=h4;simp only[za]at h5;have hsz:=ax h5.2.2;have hJ:n=(len.ev ρ).toNat:=by rw[hl];rfl
    obtain⟨ns,E,k1,k2,k3,k4,k5,k6,k7⟩:=yq hP hΦ hsr hk hJ hsz;have hcap:=av f1 hk.sat;rw[LE.au,LE.bk,LE.ij,hl,k3]at hcap;obtain⟨c1,c2⟩:=yr (P:=c.P) (e:=c.Φ.ty cc) (n:=n+ns.length) (by omega) (aN h5.1);obtain⟨E1,x1,x2,x3⟩:=hq.F1 (k:=ns.length) (E2:=E) (osA:=osA.map (SO.den ρ)) (v:=v.den ρ) (cc:=cc) (List.Perm.refl _) k5 k2 (fun j hj=>(k6 j _ (zaj hj)).more (k7 hun _ (zcp hj))) c2;refine fI.yh hg hd hlt ho hc ht hx h1 h2 (fun k h=>by cases h) h3 h4 hv hu x1 x2 k1 c1 (zay c2 (by unfold ma;omega)) fun v' G' ha hnf=>?_;obtain⟨Γ',hq'⟩:=x3 G' v' ha;have hown:df c.P c.Φ G' Γ' (.ul v' cc (ig ρ g) (n+ns.length)):=hq'.own _ (by simp)
    have href:cD v'=true:=by
     rcases hown.2.2 with ⟨h,_⟩|⟨b,cap,size,C,h,_⟩<;>rw[h]<;>rfl
    have hlim:(List.replicate (n+ns.length) 0).length<=ma:=by rw[zai];exact c2
    obtain⟨r1,r2,r3,r4⟩:=az h hk (.v v' (List.replicate (n+ns.length) 0));have hv':(ρ.up s.nx (.v v' (List.replicate (n+ns.length) 0)) s.nx).vv=v':=by rw[r4];exact U.j6 href
    have hn':(ρ.up s.nx (.v v' (List.replicate (n+ns.length) 0)) s.nx).ns.length=n+ns.length:=by rw[r4,U.lr hlim,zai]
    have eD:=(SS.cg (dK h) r2).1;have eO:osA.map (SO.den (ρ.up s.nx (.v v' (List.replicate (n+ns.length) 0))))=osA.map (SO.den ρ):=zav fun o ho=>SO.cg r2 (List.all_eq_true.1 f4 o ho);refine⟨rfl,rfl,Γ',_,_,r1,r2,zan _,?_⟩
    have hbase:Ok c T G' Γ' (ρ.up s.nx (.v v' (List.replicate (n+ns.length) 0))) (c6 (aC s) (osA++[.ul s.nx cc g])):=by
     refine⟨⟨r3.sat.fs,r3.sat.bs,r3.sat.pw,r3.sat.ats,r3.sat.dB,r3.sat.ne,r3.sat.fz,r3.sat.sb⟩,?_⟩
     have:(c6 (aC s) (osA++[.ul s.nx cc g])).den (ρ.up s.nx (.v v' (List.replicate (n+ns.length) 0)))=⟨(s.den ρ).L,osA.map (SO.den ρ)++[.ul v' cc (ig ρ g) (n+ns.length)],(s.den ρ).eF,(s.den ρ).gs⟩:=by
      refine St.ext' (by have:=congrArg St.L eD;exact this) ?_ (by have:=congrArg St.eF eD;exact this) (by have:=congrArg St.gs eD;exact this);show (osA++[SO.ul s.nx cc g]).map (SO.den _)=_;rw[zar,eO,zbc];simp only[SO.den];rw[hv',hn',bR r2 f3]
     rw[this];exact hq'
    have a1:(LE.a (.len s.nx)).ev (ρ.up s.nx (.v v' (List.replicate (n+ns.length) 0)))=(len.add k).ev (ρ.up s.nx (.v v' (List.replicate (n+ns.length) 0))):=by
     rw[LE.cg r2 f2,LE.ij,hl,k3,LE.aV];show (((ρ.up s.nx (.v v' (List.replicate (n+ns.length) 0)) s.nx).ns.length:Nat):Int)=_;rw[hn'];omega
    have:=(hbase.n9 a1).put (v:=sc (.ref s.nx)) d;rw[show (sc (.ref s.nx)).den (ρ.up s.nx (.v v' (List.replicate (n+ns.length) 0)))=v' from hv']at this;exact this
theorem K3 {cl:Call}{ts tx:TypeId}{ys yx:Operand}{v u:SV}{an:An}{K:SS->R}(hg:(ae ops i).guard=none)(hd:(ae ops i).dst=some d)(hlt:d<c.nt)(ho:(ae ops i).op=.call cl)(hc:cl.callee=.builtin .append)(ht:cl.argTypes.toList=[ts,tx])(hx:cl.args.toList=[ys,yx])
  (hP:cf.P=c.P) (hΦ:cf.Φ=c.Φ) (h:(QG cf ts tx d v u an s K).Ok) (hk:Ok c T G Γ ρ s) (hv:a9 c.nt T ys (v.den ρ)) (hu:a9 c.nt T yx (u.den ρ)):Hv c T G Γ ops i s ρ K:=by
 unfold QG at h;split at h
 ·rename_i e cc g pD;rw[hP]at pD;cases hgi:uQ s g with
  |false=>rw[hgi]at h;cases h
  |true =>
   rw[hgi]at h;refine D2 (v:=.v false [.ab]) (n:=0) hg hd hlt ho hc ht hx hP hΦ pD h hk hv hu ?_ (by rw[LE.bk];rfl);have q:=hk.q;refine⟨q.ml,q.at_,q.xU,q.rl,q.grow,fun o ho=>?_,fun o ho b hb=>?_,?_,q.ht,q.ty,q.gs⟩
   ·rcases List.mem_append.1 ho with ho|ho
    ·exact q.own o ho
    ·rw[List.mem_singleton.1 ho];exact⟨kH hgi hk,zbo _,.inl ⟨rfl,rfl⟩⟩
   ·rcases List.mem_append.1 ho with ho|ho
    ·exact q.new o ho b hb
    ·rw[List.mem_singleton.1 ho]at hb;cases hb
   ·show (eV (_++[Own.ul .ab cc (ig ρ g) 0])).Nodup;rw[fb];have:eV [Own.ul .ab cc (ig ρ g) 0]=[]:=rfl;rw[this,zbg];exact q.nd
 ·rename_i an' e x pD;rw[hP]at pD;split at h
  ·rename_i y cc g osA hr;obtain⟨r1,r2⟩:=eK hr;obtain⟨c',g',e0⟩:=K1 r1;cases e0;refine D2 (v:=.v false [.ref x]) (n:=(ρ x).ns.length) hg hd hlt ho hc ht hx hP hΦ pD h hk hv hu ?_ (by rw[LE.aV];rfl);refine hk.q.iW (fun _ _ h=>h) ⟨[],?_⟩ (fun f h=>h) (fun p h=>h);have:=dR r2 ρ;rw[zar,zbc]at this;rw[zbg];exact this
  ·exact CN hg hd hlt ho hc ht hx hP hΦ h hk hv hu
 ·exact CN hg hd hlt ho hc ht hx hP hΦ h hk hv hu
 ·exact CN hg hd hlt ho hc ht hx hP hΦ h hk hv hu
theorem IE {l:List AV}{n j sz:Nat}(hl:l.length=sz)(hj:j<n):((gY n l).drop (j*sz)).take sz=l:=by
 induction n generalizing j with
 |zero=>omega
 |succ n ih =>
  have e:gY (n+1) l=l++gY n l:=rfl;rw[e];cases j with
  |zero=>rw[zbw,zca,<-hl,List.take_left]
  |succ j=>rw[zau,Nat.add_comm,<-zct,<-hl,List.drop_left,hl];exact ih (by omega)
theorem QH {t:TypeId}{yl yc:Operand}{v u:SV}{an:An}{K:SS->R}(ho:(ae ops i).op=.makeSlice t yl yc)(hg:(ae ops i).guard=none)(hd:(ae ops i).dst=some d)(hlt:d<c.nt)(hP:cf.P=c.P)(hΦ:cf.Φ=c.Φ)(h:(MX cf t d v u an s K).Ok)(hk:Ok c T G Γ ρ s)(hv:a9 c.nt T yl (v.den ρ))(hu:a9 c.nt T yc (u.den ρ)):Hv c T G Γ ops i s ρ K:=by
 unfold MX at h;rw[hP,hΦ]at h;split at h
 ·rename_i k e k' e' el hun;cases hb:(fK k&&(fK k'&&(e.same e'&&(aX s e&&(aX s ((LE.k 16777216).sub e)&&e.lt s.nx)))))with
  |false=>rw[hb]at h;cases h
  |true =>
   rw[hb]at h;simp only[cond_true]at h;simp only[za]at hb;obtain⟨b1,b2,b3,b4,b5,b6⟩:=hb;have b1:=eu b1;have b2:=eu b2;subst b1 b2;have e1:=av b4 hk.sat;have e2:=av b5 hk.sat;rw[LE.au,LE.bk]at e2;have e3:=LE.bc b3 ρ
   have hv:a9 c.nt T yl (.int .i64 (.ofNat (e.ev ρ).toNat)):=by
    have:(SV.v false [.int .i64 e]).den ρ=.int .i64 (.ofNat (e.ev ρ).toNat):=by show AV.int .i64 (e.ev ρ)=_;congr 1;exact (zbm e1).symm
    rw[<-this];exact hv
   have hu:a9 c.nt T yc (.int .i64 (.ofNat (e.ev ρ).toNat)):=by
    have:(SV.v false [.int .i64 e']).den ρ=.int .i64 (.ofNat (e.ev ρ).toNat):=by show AV.int .i64 (e'.ev ρ)=_;rw[<-e3];congr 1;exact (zbm e1).symm
    rw[<-this];exact hu
   split at h
   ·rename_i z hz;cases hzz:zeroOf c.P el with
    |none=>rw[hzz]at hz;cases hz
    |some zz =>
     rw[hzz]at hz;simp only[zcr]at hz;cases hv0:tg zz with
     |none=>rw[hv0]at hz;cases hz
     |some w =>
      rw[hv0]at hz;have hz:dY w=some z:=hz;have z1:zz.cells=aD ρ z:=by rw[<-kD hv0 ρ];exact gk hz ρ
      have z1l:zz.cells.length=z.length:=by rw[z1];simp[aD]
      cases hb7:(Nat.beq z.length (af c.P el)&&(Nat.ble (af c.P el) 1000&&(Nat.blt 0 (af c.P el)&&Nat.ble (c.P.bytesOf el) 1000000)))with
      |false=>rw[hb7]at h;cases h
      |true =>
       rw[hb7]at h;simp only[cond_true]at h;have hgz:(Nat.beq zz.cells.length (af c.P el)&&(Nat.ble (af c.P el) 1000&&(Nat.blt 0 (af c.P el)&&Nat.ble (c.P.bytesOf el) 1000000)))=true:=by rw[z1l];exact hb7
       have hzl:zz.cells.length=af c.P el:=by rw[z1l];simp only[za]at hb7;exact aj hb7.1
       have hlim:(e.ev ρ).toNat<=ma:=by unfold ma;omega
       have hrl:(gY (e.ev ρ).toNat zz.cells).length=(e.ev ρ).toNat*af c.P el:=by rw[gU,hzl]
       split at h
       ·rename_i cc g;cases hb8:(Nat.beq (c.Φ.ty cc) el&&(c.Φ.fV cc&&(uQ s g&&(bG s.nx g&&((c.Φ.ks cc).all TJ&&!c.Φ.raw cc)))))with
        |false=>rw[hb8]at h;cases h
        |true =>
         rw[hb8]at h;simp only[cond_true]at h;simp only[za,zam]at hb8;obtain⟨d1,d2,d3,d4,d5,hrw⟩:=hb8;have d1:=aj d1;subst d1;cases hch:rD cf s g (ghost s.gs g) (.k 0) (c.Φ.ks cc) z with
         |none=>rw[hch]at h;cases h
         |some os =>
          rw[hch]at h;simp only at h;cases hw:aX s ((LE.k WU).sub (ji os))with
          |false=>rw[hw]at h;cases h
          |true =>
           rw[hw]at h;simp only[cond_true]at h;obtain⟨fs,w1,w2,w3⟩:=n7 hΦ hk (fun dv h=>bz h hk) (J:=0) (by rw[LE.bk];exact⟨zby _,rfl⟩) hch;have hwu:=av hw hk.sat;rw[LE.au,LE.bk,w2]at hwu;rw[<-z1]at w1;refine fI.IB hg hd hlt ho hun hzz hgz hv hu (by omega) (by rw[z1];exact gj _ _) fun b hb hb'=>⟨rfl,rfl,?_⟩
           have hq:=hk.q.Qq (cc:=cc) (g:=ig ρ g) (L:=List.replicate (e.ev ρ).toNat WU) (size:=(e.ev ρ).toNat*af c.P (c.Φ.ty cc)) (C:=gY (e.ev ρ).toNat zz.cells) (tys':=[.sl (.dx b 0 (e.ev ρ).toNat (e.ev ρ).toNat) cc (ig ρ g) (List.replicate (e.ev ρ).toNat WU)]) hb hb' (kH d3 hk) hrw (fun _ m hm=>zbv hm) (by rw[hrl,zai]) (fun j m hj=>by
             have hm:=zbv (zaw hj);have hjl:=(List.getElem?_eq_some_iff.1 hj).1;rw[zai]at hjl;rw[IE hzl hjl,hm];exact⟨fs,rF d5 w1,by omega,w3⟩) (fun f hf=>by
             rw[List.mem_singleton.1 hf]
             exact⟨by rw[zai];exact hlim,.inr (.inr ⟨b,(e.ev ρ).toNat,_,_,_,by rw[zai],updΓ_same _ _ _,(zcl).symm,aA _ _ _,zad _,by rw[zai];exact zad _⟩)⟩)
           obtain⟨r1,r2,r3,r4⟩:=az h hk (.v (.dx b 0 (e.ev ρ).toNat (e.ev ρ).toNat) (List.replicate (e.ev ρ).toNat WU));generalize hU:U.v (.dx b 0 (e.ev ρ).toNat (e.ev ρ).toNat) (List.replicate (e.ev ρ).toNat WU)=uu at r1 r2 r3 r4;have hv':(ρ.up s.nx uu s.nx).vv=.dx b 0 (e.ev ρ).toNat (e.ev ρ).toNat:=by rw[r4,<-hU];rfl
           have hn':(ρ.up s.nx uu s.nx).ns=List.replicate (e.ev ρ).toNat WU:=by rw[r4,<-hU];exact U.lr (by rw[zai];exact hlim)
           have eD:=(SS.cg (dK h) r2).1;refine⟨updΓ Γ b (.cells cc (ig ρ g) (List.replicate (e.ev ρ).toNat WU)),ρ.up s.nx uu,_,r1,r2,zan _,?_⟩
           have ok1:Ok c T (fx G b (.cells .data (c.Φ.ty cc) ((e.ev ρ).toNat*af c.P (c.Φ.ty cc)) (gY (e.ev ρ).toNat zz.cells))) (updΓ Γ b (.cells cc (ig ρ g) (List.replicate (e.ev ρ).toNat WU))) (ρ.up s.nx uu) (bL (aC s) (.sl s.nx cc g)):=⟨⟨r3.sat.fs,r3.sat.bs,r3.sat.pw,r3.sat.ats,r3.sat.dB,r3.sat.ne,r3.sat.fz,r3.sat.sb⟩,by
            have:(bL (aC s) (.sl s.nx cc g)).den (ρ.up s.nx uu)=⟨(s.den ρ).L,(s.den ρ).os,.sl (.dx b 0 (e.ev ρ).toNat (e.ev ρ).toNat) cc (ig ρ g) (List.replicate (e.ev ρ).toNat WU)::(s.den ρ).eF,(s.den ρ).gs⟩:=by
             refine St.ext' (by have:=congrArg St.L eD;exact this) (by have:=congrArg St.os eD;exact this) ?_ (by have:=congrArg St.gs eD;exact this);show dW.den _ (.sl s.nx cc g)::s.ty.map (dW.den _)=_;rw[show s.ty.map (dW.den (ρ.up s.nx uu))=(s.den ρ).eF from congrArg St.eF eD];simp only[dW.den];rw[hv',hn',bR r2 d4]
            rw[this];exact hq⟩
           have:=(ok1.n9 (a:=.a (.len s.nx)) (b:=e) (by
            rw[LE.aV,LE.cg r2 b6];show (((ρ.up s.nx uu s.nx).ns.length:Nat):Int)=_
            rw[hn',zai];omega)).put (v:=sc (.ref s.nx)) d
           rw[show (sc (.ref s.nx)).den (ρ.up s.nx uu)=.dx b 0 (e.ev ρ).toNat (e.ev ρ).toNat from hv']at this;exact this
       ·split at h
        ·have z2:zz.cells=[.bool false]:=z1;rw[z2]at hzl hrl;have hzl:1=af c.P el:=hzl;refine fI.IB hg hd hlt ho hun hzz hgz hv hu (by omega) (by rw[z1];exact gj _ _) fun b hb hb'=>⟨rfl,rfl,?_⟩;rw[z2]
         have hC:gY (e.ev ρ).toNat [AV.bool false]=(List.replicate (e.ev ρ).toNat 1).map (fun m=>AV.bool (Nat.beq m 0)):=by
          generalize (e.ev ρ).toNat=n
          induction n with
          |zero=>rfl
          |succ n ih=>show AV.bool false::gY n [AV.bool false]=_;rw[ih];rfl
         have hq:=hk.q.AX (g:=.cells .data el ((e.ev ρ).toNat*af c.P el) (gY (e.ev ρ).toNat [AV.bool false])) hb hb' (.bl (.dx b 0 (e.ev ρ).toNat (e.ev ρ).toNat) el (List.replicate (e.ev ρ).toNat 1)) rfl ⟨by rw[zai];exact hlim,fun m hm=>by rw[zbv hm];exact zad _,b,(e.ev ρ).toNat*af c.P el,by rw[zai],hk.q.ht.none hb',by rw[aA,hC]⟩;obtain⟨r1,r2,r3,r4⟩:=az h hk (.v (.dx b 0 (e.ev ρ).toNat (e.ev ρ).toNat) (List.replicate (e.ev ρ).toNat 1));generalize hU:U.v (.dx b 0 (e.ev ρ).toNat (e.ev ρ).toNat) (List.replicate (e.ev ρ).toNat 1)=uu at r1 r2 r3 r4;have hv':(ρ.up s.nx uu s.nx).vv=.dx b 0 (e.ev ρ).toNat (e.ev ρ).toNat:=by rw[r4,<-hU];rfl
         have hn':(ρ.up s.nx uu s.nx).ns=List.replicate (e.ev ρ).toNat 1:=by rw[r4,<-hU];exact U.lr (by rw[zai];exact hlim)
         have eD:=(SS.cg (dK h) r2).1;refine⟨Γ,ρ.up s.nx uu,_,r1,r2,zan _,?_⟩
         have ok1:Ok c T (fx G b (.cells .data el ((e.ev ρ).toNat*af c.P el) (gY (e.ev ρ).toNat [AV.bool false]))) Γ (ρ.up s.nx uu) (c6 (aC s) (.bl s.nx s.nx el::s.os)):=⟨⟨r3.sat.fs,r3.sat.bs,r3.sat.pw,r3.sat.ats,r3.sat.dB,r3.sat.ne,r3.sat.fz,r3.sat.sb⟩,by
          have:(c6 (aC s) (.bl s.nx s.nx el::s.os)).den (ρ.up s.nx uu)=⟨(s.den ρ).L,.bl (.dx b 0 (e.ev ρ).toNat (e.ev ρ).toNat) el (List.replicate (e.ev ρ).toNat 1)::(s.den ρ).os,(s.den ρ).eF,(s.den ρ).gs⟩:=by
           refine St.ext' (by have:=congrArg St.L eD;exact this) ?_ (by have:=congrArg St.eF eD;exact this) (by have:=congrArg St.gs eD;exact this);show SO.den _ (.bl s.nx s.nx el)::s.os.map (SO.den _)=_;rw[show s.os.map (SO.den (ρ.up s.nx uu))=(s.den ρ).os from congrArg St.os eD];simp only[SO.den];rw[hv',hn']
          rw[this];exact hq⟩
         have:=((ok1.n9 (a:=.a (.len s.nx)) (b:=e) (by
          rw[LE.aV,LE.cg r2 b6];show (((ρ.up s.nx uu s.nx).ns.length:Nat):Int)=_
          rw[hn',zai];omega)).n9 (a:=.a (.wt s.nx)) (b:=e.js 2) (by
          rw[LE.aV,LE.fJ,LE.cg r2 b6];show (((ρ.up s.nx uu s.nx).ns.sum+(ρ.up s.nx uu s.nx).ns.length:Nat):Int)=_
          rw[hn',zai,List.sum_replicate_nat];omega)).put (v:=sc (.ref s.nx)) d
         rw[show (sc (.ref s.nx)).den (ρ.up s.nx uu)=.dx b 0 (e.ev ρ).toNat (e.ev ρ).toNat from hv']at this;exact this
        ·cases h
       ·cases h
   ·cases h
 ·cases h
end
end Go.Rd
namespace Go.Rd
open Go.aK Go.RowKit Go.Rt
def ZN (cf:Cf)(t:TypeId)(cc g:Nat)(e:LE)(o:Nat)(v:SV)(s:SS)(K:SS->R):R:=match dY v with
 |some l=>bif cf.Φ.fV cc&&((cf.P.info? t).isSome&&(Nat.beq (af cf.P t) l.length&&Nat.ble (o+l.length) (cf.Φ.ks cc).length))then
  (match rD cf s g (ghost s.gs g) e (((cf.Φ.ks cc).drop o).take l.length) l with
   |some os=>bif FV s os o l.length (cf.Φ.ks cc).length then K s else .bad 200 s
   |none=>.bad 201 s)
  else .bad 202 s
 |none=>.bad 203 s
def Xa (s:SS)(m:Nat)(e:LE):Nat:=match AP s.pw m e,AP s.pw m (e.aO 1)with
 |some p,some q=>bif q.same (p.aO 2)then 1 else 0
 |_,_=>0
def ZO (cf:Cf)(t:TypeId)(y m:Nat)(el:TypeId)(osA:List SO)(e:LE)(v:SV)(s:SS)(K:SS->R):R:=match v with
 |.v false [.bool (.k true)]=>bif (cf.P.info? t).isSome&&(Nat.beq (af cf.P t) 1&&(osA.all (SO.lt s.nx)&&(Nat.blt y s.nx&&Nat.blt m s.nx)))then
  fresh s fun x s'=>K (aF (n9 (c6 s' (osA++[.bl y x el])) (.a (.len x)) (.a (.len m))) (((LE.a (.wt m)).sub (.a (.wt x))).aO (-(Xa s m e:Nat))))
  else .bad 204 s
 |_=>.bad 205 s
def QI (cf:Cf)(t:TypeId)(x v:SV)(s:SS)(K:SS->R):R:=match x with
 |.v false [.py y e sz o]=>(match mD (fun w=>F2 y w||QF y w) s.os with
  |some (.ul _ cc g,osA)=>bif yM s (.ul cc g) y e&&Nat.beq sz (af cf.P (cf.Φ.ty cc))then ZN cf t cc g e o v s K else .bad 206 s
  |some (.bl _ m el,osA)=>bif yM s (.bl m el) y e&&(Nat.beq sz 1&&Nat.beq o 0)then ZO cf t y m el osA e v s K else .bad 207 s
  |_=>V6 cf t x v s K)
 |_=>V6 cf t x v s K
section
variable {c:Cx}{T:Tm}{G:GH}{Γ:dI}{ρ ρ':bm}{s s':SS}{cf:Cf}{ops:Array Oper}{i d:Nat}
theorem D3 {w:IA}{y:Nat}{e:LE}(hw:w.so y∈s.os)(h:yM s w y e=true)(hk:Ok c T G Γ ρ s):0<=e.ev ρ/\(e.ev ρ).toNat<(ρ (w.ln y)).ns.length:=by
 unfold yM at h;rw[za]at h;have e1:=av h.1 hk.sat;have e2:=av h.2 hk.sat;rw[LE.aE,LE.au,LE.aV]at e2;have e2:0<=((ρ (w.ln y)).ns.length:Int)-e.ev ρ+-1:=e2;exact⟨e1,by omega⟩
theorem D4:∀{l:List Nat}{k:Nat}(h:k<l.length),(l.set k 0).sum+l[k]=l.sum
 |a::l,0,_=>by simp;omega
 |a::l,k+1,h=>by
  have:=D4 (l:=l) (k:=k) (by simpa using h);simp only[List.set_cons_succ,zda,List.getElem_cons_succ];omega
theorem QJ {m:Nat}{e:LE}(hs:Sat ρ s)(he:0<=e.ev ρ)(hlt:(e.ev ρ).toNat<(ρ m).ns.length):Xa s m e<=(ρ m).ns[(e.ev ρ).toNat]:=by
 unfold Xa;split
 ·rename_i p q h1 h2;cases hb:q.same (p.aO 2)with
  |false=>exact zbo _
  |true =>
   show 1<=_;obtain⟨e1,m1,m2⟩:=ti h1;obtain⟨e2,m3,m4⟩:=ti h2;have a1:=(hs.pw _ m1).2;have a2:=(hs.pw _ m3).2;have a1:((((ρ m).ns.take (e1.ev ρ).toNat).sum:Nat):Int)+e1.ev ρ=p.ev ρ:=a1;have a2:((((ρ m).ns.take (e2.ev ρ).toNat).sum:Nat):Int)+e2.ev ρ=q.ev ρ:=a2;rw[m2 ρ]at a1;rw[m4 ρ,LE.aE,LE.bc hb ρ,LE.aE,show (e.ev ρ+1).toNat=(e.ev ρ).toNat+1 by omega]at a2
   have hsum:((ρ m).ns.take ((e.ev ρ).toNat+1)).sum=((ρ m).ns.take (e.ev ρ).toNat).sum+(ρ m).ns[(e.ev ρ).toNat]:=by
    rw[List.take_add_one,zaj hlt,zdy];simp
   omega
 ·exact zbo _
theorem K4 {t:TypeId}{x:Nat}{y:Operand}{u v:SV}{K:SS->R}(ho:(ae ops i).op=.store t (.tmp x) y)(hg:(ae ops i).guard=none)(hd:(ae ops i).dst=none)(hP:cf.P=c.P)(hΦ:cf.Φ=c.Φ)(h:(QI cf t u v s K).Ok)(hk:Ok c T G Γ ρ s)(hx:T.at x=u.den ρ)(hy:a9 c.nt T y (v.den ρ)):Hv c T G Γ ops i s ρ K:=by
 unfold QI at h;split at h
 ·rename_i q e sz o;split at h
  ·rename_i q' cc g osA hr;obtain⟨r1,r2⟩:=eK hr
   have hq':q'=q:=by
    have r1:(F2 q (.ul q' cc g)||false)=true:=r1;rw[Bool.or_false]at r1;exact aj r1
   subst hq';rw[hP,hΦ]at h;cases hb:(yM s (.ul cc g) q' e&&Nat.beq sz (af c.P (c.Φ.ty cc)))with
   |false=>rw[hb]at h;cases h
   |true =>
    rw[hb]at h;simp only[cond_true]at h;rw[za]at hb;have hmem:SO.ul q' cc g∈s.os:=r2.mem_iff.2 (by simp);obtain⟨a1,a2⟩:=D3 (w:=.ul cc g) hmem hb.1 hk;have a2:(e.ev ρ).toNat<(ρ q').ns.length:=a2;have hsz:=aj hb.2;subst hsz;unfold ZN at h;rw[hP,hΦ]at h;cases hc:dY v with
    |none=>rw[hc]at h;cases h
    |some l =>
     rw[hc]at h;simp only at h;cases hb1:(c.Φ.fV cc&&((c.P.info? t).isSome&&(Nat.beq (af c.P t) l.length&&Nat.ble (o+l.length) (c.Φ.ks cc).length)))with
     |false=>rw[hb1]at h;cases h
     |true =>
      rw[hb1]at h;simp only[cond_true]at h;simp only[za]at hb1;obtain⟨b1,b2,b3,b4⟩:=hb1;have b3:=aj b3;have b4:=aN b4;cases kL:rD cf s g (ghost s.gs g) e (((c.Φ.ks cc).drop o).take l.length) l with
      |none=>rw[kL]at h;cases h
      |some os =>
       rw[kL]at h;simp only at h;cases hos:FV s os o l.length (c.Φ.ks cc).length with
       |false=>rw[hos]at h;cases h
       |true =>
        rw[hos]at h;have h:(K s).Ok:=h;have hos:=DV hos hk.sat;have hown:=hk.own hmem;obtain⟨o1,o2,o3⟩:_/\_/\_:=hown;rcases o3 with ⟨_,h0⟩|⟨b,cap,size,C,k1,k2,k3,k4,k5,k6,k7⟩
        ·have h0:(ρ q').ns.length=0:=h0;omega
        ·have k4:C.length=(ρ q').ns.length*af c.P (c.Φ.ty cc):=k4;have k7:∀j,j<(ρ q').ns.length->eY c.P c.Φ G Γ WU cc (ig ρ g) j ((C.drop (j*af c.P (c.Φ.ty cc))).take (af c.P (c.Φ.ty cc))):=k7;have e2:=gk hc ρ;have hll:(aD ρ l).length=l.length:=by simp[aD]
         obtain⟨fl,c1,c2,c3⟩:=n7 hΦ hk (fun dv h=>bz h hk) ⟨a1,rfl⟩ kL;have h1:((e.ev ρ).toNat+1)*af c.P (c.Φ.ty cc)<=(ρ q').ns.length*af c.P (c.Φ.ty cc):=zae _ a2;rw[zau]at h1;obtain⟨fs0,w1,w2,w3⟩:=k7 _ a2
         have hks:(c.Φ.ks cc).length=af c.P (c.Φ.ty cc):=by
          rw[<-w1.len,zag,zas];omega
         have hx':T.at x=.bZ b ((e.ev ρ).toNat*af c.P (c.Φ.ty cc)+o):=hx.trans (j7 k1);have hfit:(e.ev ρ).toNat*af c.P (c.Φ.ty cc)+o+l.length<=C.length:=by omega
         refine fI.xS (fun e=>by cases e) hg hd ho hx' hy b2 rfl (by rw[e2,hll,b3]) (by rw[e2];exact rz _ _) (by rw[e2];exact gj _ _) k3 (by rw[b3];exact hfit) ⟨rfl,rfl,Γ,ρ,s,h,dh.refl _ _,zad _,hk.sat,?_⟩;rw[e2,AZ];have hpd:=dR r2 ρ;rw[zar,zbc]at hpd
         have hQ:=hk.q.vu (b:=b) (G':=fx G b (.cells .data (c.Φ.ty cc) size (rn ((e.ev ρ).toNat*af c.P (c.Φ.ty cc)+o) (aD ρ l) C))) (Γ':=Γ) (osA:=osA.map (SO.den ρ)) (o:=SO.den ρ (.ul q' cc g)) (o':=SO.den ρ (.ul q' cc g)) (tys':=[]) hpd (dP (.inl (by rw[k3];rfl))) (fun _ _=>rfl) (fun k h=>dH h) (by rw[aA];rfl)
          (fun _ _ _ h=>by rw[k3]at h;cases h) (fun _ _ _ h=>by rw[k3]at h;cases h;exact⟨_,aA _ _ _⟩) (fun x h=>by rw[k2]at h;cases h) rfl rfl (.inl (by show su (ρ q').vv=_;rw[k1];rfl)) (by show su (ρ q').vv=_;rw[k1];rfl) (fun x _ _ h=>by rw[k2]at h;cases h)
          (fun hr' hl'=>⟨o1,o2,.inr ⟨b,cap,size,_,k1,k2,aA _ _ _,by rw[te (by rw[hll];exact hfit)];exact k4,k5,k6,fun j hj=>by
           rw[Is k4 a2 (by rw[hll];omega)];by_cases ek:j=(e.ev ρ).toNat
           ·subst ek;rw[if_pos rfl];obtain⟨fs',p1,p2,p3,p4⟩:=DU (o:=o) w1 (l:=aD ρ l) (by rw[hll];exact c1) (by rw[hll];exact b4);refine eY.le ⟨fs',p1,?_,fun f hf=>(p3 f hf).elim (w3 f) (c3 f)⟩ hr' hl' o1;rcases hos with rfl|⟨ho0,hlk,hW⟩
            ·rw[ji,LE.bk]at c2;have:jj c.Φ fl=0:=by omega
             omega
            ·have:=p4 ⟨ho0,by rw[hll];exact hlk⟩;rw[this];omega
           ·rw[if_neg ek]
            exact (k7 j hj).le hr' hl' o1⟩⟩) (fun f h=>by cases h)
         exact hQ.iW (fun _ _ h=>h) ⟨[],by rw[zbg];exact hpd.symm⟩ (fun f h=>h) (fun p h=>h)
  ·rename_i q' m el osA hr;obtain⟨r1,r2⟩:=eK hr
   have hq':q'=q:=by
    have r1:(false||QF q (.bl q' m el))=true:=r1;rw[zcs]at r1;exact aj r1
   subst hq';cases hb:(yM s (.bl m el) q' e&&(Nat.beq sz 1&&Nat.beq o 0))with
   |false=>rw[hb]at h;cases h
   |true =>
    rw[hb]at h;simp only[cond_true]at h;simp only[za]at hb;have hmem:SO.bl q' m el∈s.os:=r2.mem_iff.2 (by simp);obtain⟨a1,a2⟩:=D3 (w:=.bl m el) hmem hb.1 hk;have a2:(e.ev ρ).toNat<(ρ m).ns.length:=a2;have h1:=aj hb.2.1;have h2:=aj hb.2.2;subst h1 h2;unfold ZO at h;rw[hP]at h;split at h
    ·cases hb1:((c.P.info? t).isSome&&(Nat.beq (af c.P t) 1&&(osA.all (SO.lt s.nx)&&(Nat.blt q' s.nx&&Nat.blt m s.nx))))with
     |false=>rw[hb1]at h;cases h
     |true =>
      rw[hb1]at h;simp only[cond_true]at h;simp only[za]at hb1;obtain⟨b1,b2,b3,b4,b5⟩:=hb1;have b2:=aj b2;have hown:=hk.own hmem;obtain⟨o1,o2,b,size,k1,k2,k3⟩:=hown;have hx':T.at x=.bZ b (e.ev ρ).toNat:=(hx.trans (j7 k1)).trans (by rw[zey,zbt]);have hone:((SV.v false [SC.bool (.k true)]).den ρ).cells=[.bool true]:=rfl;refine fI.xS (fun e=>by cases e) hg hd ho hx' hy b1 rfl (by rw[hone,b2];rfl) rfl (by rw[hone];exact eT (jr _) gG) k3 (by rw[b2,zde];omega) ⟨rfl,rfl,Γ,?_⟩;rw[hone]
      have hput:vq ((ρ m).ns.map (fun m=>AV.bool (Nat.beq m 0))) (e.ev ρ).toNat [.bool true]=((ρ m).ns.set (e.ev ρ).toNat 0).map (fun m=>AV.bool (Nat.beq m 0)):=by
       rw[List.map_set];have hl:(e.ev ρ).toNat<((ρ m).ns.map (fun m=>AV.bool (Nat.beq m 0))).length:=by rw[zde];exact a2
       rw[List.set_eq_take_append_cons_drop,if_pos hl];show _++[_]++_=_;rw[zbd];rfl
      rw[hput];have hlim:((ρ m).ns.set (e.ev ρ).toNat 0).length<=ma:=by rw[zep];exact o1
      obtain⟨p1,p2,p3,p4⟩:=az h hk (.v .ab ((ρ m).ns.set (e.ev ρ).toNat 0));generalize hU:U.v .ab ((ρ m).ns.set (e.ev ρ).toNat 0)=uu at p1 p2 p3 p4;have hn':(ρ.up s.nx uu s.nx).ns=(ρ m).ns.set (e.ev ρ).toNat 0:=by rw[p4,<-hU];exact U.lr hlim
      have eD:=(SS.cg (dK h) p2).1;have hpd:=dR r2 ρ;rw[zar,zbc]at hpd
      have hQ:=hk.q.vu (b:=b) (G':=fx G b (.cells .data el size (((ρ m).ns.set (e.ev ρ).toNat 0).map (fun m=>AV.bool (Nat.beq m 0))))) (Γ':=Γ) (osA:=osA.map (SO.den ρ)) (o:=SO.den ρ (.bl q' m el)) (o':=.bl (ρ q').vv el ((ρ m).ns.set (e.ev ρ).toNat 0)) (tys':=[]) hpd (dP (.inl (by rw[k3];rfl))) (fun _ _=>rfl) (fun k h=>dH h) (by rw[aA];rfl)
       (fun _ _ _ h=>by rw[k3]at h;cases h) (fun _ _ _ h=>by rw[k3]at h;cases h;exact⟨_,aA _ _ _⟩) (fun x h=>by rw[k2]at h;cases h) rfl rfl (.inl (by show su (ρ q').vv=_;rw[k1];rfl)) (by show su (ρ q').vv=_;rw[k1];rfl) (fun x _ _ h=>by rw[k2]at h;cases h)
       (fun hr' hl'=>⟨hlim,fun z hz=>by
        rcases List.mem_or_eq_of_mem_set hz with hz|rfl
        ·exact o2 z hz
        ·exact zbo _,b,size,by rw[zep];exact k1,k2,aA _ _ _⟩) (fun f h=>by cases h)
      refine⟨ρ.up s.nx uu,_,p1,p2,zan _,?_⟩;have eO:osA.map (SO.den (ρ.up s.nx uu))=osA.map (SO.den ρ):=zav fun o ho=>SO.cg p2 (List.all_eq_true.1 b3 o ho)
      have hbase:Ok c T (fx G b (.cells .data el size (((ρ m).ns.set (e.ev ρ).toNat 0).map (fun m=>AV.bool (Nat.beq m 0))))) Γ (ρ.up s.nx uu) (c6 (aC s) (osA++[.bl q' s.nx el])):=by
       refine⟨⟨p3.sat.fs,p3.sat.bs,p3.sat.pw,p3.sat.ats,p3.sat.dB,p3.sat.ne,p3.sat.fz,p3.sat.sb⟩,?_⟩
       have:(c6 (aC s) (osA++[.bl q' s.nx el])).den (ρ.up s.nx uu)=⟨(s.den ρ).L,osA.map (SO.den ρ)++[.bl (ρ q').vv el ((ρ m).ns.set (e.ev ρ).toNat 0)],(s.den ρ).eF,(s.den ρ).gs⟩:=by
        refine St.ext' (by have:=congrArg St.L eD;exact this) ?_ (by have:=congrArg St.eF eD;exact this) (by have:=congrArg St.gs eD;exact this);show (osA++[SO.bl q' s.nx el]).map (SO.den _)=_;rw[zar,eO,zbc];simp only[SO.den];rw[hn',p2 q' (ax b4)]
       rw[this];exact hQ.iW (fun _ _ h=>h) ⟨[],by rw[zbg]⟩ (fun f h=>h) (fun p h=>h)
      have hm2:=p2 m (ax b5);refine (hbase.n9 ?_).aF ?_
      ·rw[LE.aV,LE.aV];show (((ρ.up s.nx uu s.nx).ns.length:Nat):Int)=(((ρ.up s.nx uu m).ns.length:Nat):Int);rw[hn',hm2,zep]
      ·rw[LE.aE,LE.au,LE.aV,LE.aV];show 0<=(((ρ.up s.nx uu m).ns.sum+(ρ.up s.nx uu m).ns.length:Nat):Int)-(((ρ.up s.nx uu s.nx).ns.sum+(ρ.up s.nx uu s.nx).ns.length:Nat):Int)+_;rw[hn',hm2,zep];have h5:=D4 a2;have h6:=QJ (s:=s) (m:=m) (e:=e) hk.sat a1 a2;omega
    ·cases h
  ·exact Iu ho hg hd hP hΦ h hk hx hy
 ·exact Iu ho hg hd hP hΦ h hk hx hy
end
end Go.Rd
namespace Go.Rd
open Go.aK Go.RowKit Go.Rt
theorem wO {k v:AV}:∀{es:List (AV×AV)}{p:AV×AV},p∈cy k v es->p∈es∨(p.2=v/\(p.1=k∨aZ k p.1=true))
 | [],p,h=>by rw[List.mem_singleton.1 h];exact .inr ⟨rfl,.inl rfl⟩
 |q::es,p,h=>by
  have h:p∈(bif aZ k q.1 then (q.1,v)::es else q::cy k v es):=h;cases hb:aZ k q.1 with
  |true =>
   rw[hb]at h;rcases List.mem_cons.1 h with rfl|h
   ·exact .inr ⟨rfl,.inr hb⟩
   ·exact .inl (zaa _ h)
  |false =>
   rw[hb]at h;rcases List.mem_cons.1 h with rfl|h
   ·exact .inl (zac ..)
   ·exact (wO h).imp_left (zaa _)
theorem uS {pk:KK}{x k:AV}(hx:de pk x)(hk:de pk k)(h:aZ x k=true):∀{es:List (AV×AV)},(∀p∈es,de pk p.1)->cn x es=cn k es
 | [],_=>rfl
 |p::es,h0=>by
  show (bif aZ x p.1 then some p.2 else cn x es)=(bif aZ k p.1 then some p.2 else cn k es);rw[j5 hx hk (h0 p (zac ..)) h,uS hx hk h fun q hq=>h0 q (zaa _ hq)]
def Xb (b:Nat):SO->Bool|.im y _=>Nat.beq y b|.am y _ _=>Nat.beq y b|_=>false
def K5:SO->Bool|.am _ _ _=>false|_=>true
def kI:List (Nat×Nat×Bool)->Nat->Option Nat
 | [],_=>none
 |p::l,g=>bif Nat.beq p.1 g&&p.2.2 then some p.2.1 else kI l g
theorem gL:∀{l:List (Nat×Nat×Bool)}{g d:Nat},kI l g=some d->(g,d,true)∈l
 | [],g,d,h=>by cases h
 |p::l,g,d,h=>by
  have h:(bif Nat.beq p.1 g&&p.2.2 then some p.2.1 else kI l g)=some d:=h;cases hb:(Nat.beq p.1 g&&p.2.2)with
  |true =>
   rw[hb]at h;cases h;rw[za]at hb;have:=aj hb.1;subst this;have e:p=(p.1,p.2.1,true):=by rw[<-hb.2]
   rw[<-e];exact zac ..
  |false=>rw[hb]at h;exact zaa _ (gL h)
def mf (s:SS):List (Nat×Nat×Bool):=s.gs.filter fun p=>s.fz.contains p.2.1
def F3 (s:SS)(d d':Nat):List Nat->SS
 | []=>s
 |k::ks=>n9 (F3 s d d' ks) (.a (.gn d' k)) (.a (.gn d k))
def ou:List (Nat×Nat)->Nat->Nat->List (Nat×Nat)
 | [],_,_=>[]
 |p::l,d,d'=>bif Nat.beq p.1 d then (d',p.2)::ou l d d' else ou l d d'
def sW (s:SS)(g d':Nat)(w:Bool)(os:List SO)(ats:List (Nat×SC×LE))(dB:List (Nat×LE×LE))(fz:List Nat)(sb:List (Nat×Nat)):SS:=⟨s.nx,s.L,os,s.ty,(g,d',w)::mf s,s.fs,s.bs,s.pw,ats++s.ats,dB++s.dB,s.ne,fz++s.fz,sb++s.sb⟩
def Ni (s:SS)(d d':Nat):List (Nat×SC×LE):=(s.ats.filter fun p=>Nat.beq p.1 d&&aX s p.2.2).map fun p=>(d',p.2.1,p.2.2)
def ZP (cf:Cf)(b g q:Nat)(osA:List SO)(k v:SV)(s:SS)(K:SS->R):R:=match kI s.gs g,k,v with
 |some d,.v false [x],.v false [.int kd e]=>(match yg s.ats d x with
  |some ea=>bif aX s ((LE.k (-1)).sub ea)&&(fK kd&&(aX s e&&(aX s (((LE.a (.gn d q)).sub e).aO (-1))&&(x.lt s.nx&&(e.lt s.nx&&(Nat.blt d s.nx&&(bG s.nx g&&(Nat.blt b s.nx&&(osA.all K5&&osA.all (SO.lt s.nx))))))))))then
   fresh s fun d' s'=>K (F3 (sW s' g d' true (osA++[.am b g q]) ((d',x,e)::Ni s d d') [] [] (ou s.sb d d')) d d' [0,1,2,3,4,5])
   else .bad 210 s
  |none=>.bad 211 s)
 |_,_,_=>.bad 212 s
def V8 (cf:Cf)(t:TypeId)(m k v:SV)(s:SS)(K:SS->R):R:=match cf.P.underlying t with
 |some (.map kt et)=>(match m with
  |.v false [.ref y]=>(match wE s.ty y with
   |some (cc,g)=>bif !cf.Φ.im cc&&(s.os.all SO.SM&&(gl cf kt (cf.Φ.pk cc)&&eC (cf.Φ.pk cc) k))then
    (match cf.Φ.mv cc,v,k with
     |.kd kd,.v false [x],_=>(match mB cf s g (ghost s.gs g) (.k 0) kd x with|some _=>K s|none=>.bad 213 s)
     |.unit,.v true [],_=>K s
     |.DD,.v false [.int kd e],.v true [x,_]=>(match ghost s.gs g with
      |some d=>(match yg s.ats d x with
       |some j=>(match x6 s.dB d j with
        |some f=>bif fK kd&&(aX s j&&(aX s e&&(aX s ((f.sub e).aO (-1))&&s.fz.contains d)))then K s else .bad 214 s
        |none=>.bad 215 s)
       |none=>.bad 216 s)
      |none=>.bad 217 s)
     |_,_,_=>.bad 218 s)
    else .bad 219 s
   |none=>.bad 220 s)
  |.v false [.cV b]=>bif gl cf kt .str&&eC .str k then (match mD (Xb b) s.os with
   |some (.im _ e0,osA)=>(match v with
    |.v false [.int kd e]=>bif fK kd&&aX s e then
     (bif aX s ((e0.sub e).aO (-1))then K (c6 s (osA++[.im b e0]))else bif aX s ((e.aO 1).sub e0)then K (c6 s (osA++[.im b (e.aO 1)]))else .bad 221 s)
     else .bad 222 s
    |_=>.bad 223 s)
   |some (.am _ g q,osA)=>ZP cf b g q osA k v s K
   |_=>.bad 224 s)else .bad 225 s
  |_=>.bad 226 s)
 |_=>.bad 227 s
section
variable {c:Cx}{T:Tm}{G:GH}{Γ:dI}{ρ ρ':bm}{s s':SS}{cf:Cf}{ops:Array Oper}{i d:Nat}
theorem yw {dd dn:Nat}:∀{ks:List Nat},Ok c T G Γ ρ s->(∀k,(ρ dn).gg.n k=(ρ dd).gg.n k)->Ok c T G Γ ρ (F3 s dd dn ks)
 | [],h,_=>h
 |k::ks,h,hn=>(yw (ks:=ks) h hn).n9 (by rw[LE.aV,LE.aV];show (((ρ dn).gg.n k:Nat):Int)=(((ρ dd).gg.n k:Nat):Int);rw[hn])
theorem tq {dd dn:Nat}(hs:(ρ dn).gg.sub=(ρ dd).gg.sub):∀{l:List (Nat×Nat)},(∀p∈l,(ρ p.1).gg.sub=ig ρ p.2)->∀p∈ou l dd dn,(ρ p.1).gg.sub=ig ρ p.2
 | [],_,_,h=>by cases h
 |q::l,h0,p,h=>by
  have h:p∈(bif Nat.beq q.1 dd then (dn,q.2)::ou l dd dn else ou l dd dn):=h;cases hb:Nat.beq q.1 dd with
  |true =>
   rw[hb]at h;have e:=aj hb;rcases List.mem_cons.1 h with rfl|h
   ·have:=h0 q (zac ..);rw[e]at this;show (ρ dn).gg.sub=_;rw[hs];exact this
   ·exact tq hs (fun p hp=>h0 p (zaa _ hp)) p h
  |false=>rw[hb]at h;exact tq hs (fun p hp=>h0 p (zaa _ hp)) p h
theorem rH {g:Nat}(hk:Ok c T G Γ ρ s){p:Nat×Nat×Bool}(hp:p∈mf s)(hg:(Γ.gd g).fz=false):p∈s.gs/\ig ρ p.1≠g:=by
 obtain⟨h1,h2⟩:=List.mem_filter.1 hp;refine⟨h1,fun e=>?_⟩;have h3:=hk.sat.fz p.2.1 (List.contains_iff_mem.1 h2);have:=(hk.q.gs (ig ρ p.1,(ρ p.2.1).gg,p.2.2) (List.mem_map.2 ⟨p,h1,rfl⟩)).2.1;have this:Γ.gd (ig ρ p.1)=(ρ p.2.1).gg:=this;rw[e]at this;rw[<-this,hg]at h3;cases h3
theorem yy {t kt et:TypeId}{ym yk yv:Operand}{y cc g:Nat}{k v:SV}{pk:KK}{K:SS->R}(ho:(ae ops i).op=.mapUpdate t ym yk yv)(hg:(ae ops i).guard=none)(hd:(ae ops i).dst=none)(hu:c.P.underlying t=some (.map kt et))(hM:lj c.P kt (c.Φ.pk cc))(hk:Ok c T G Γ ρ s)(hm:a9 c.nt T ym (ρ y).vv)(hkk:a9 c.nt T yk (k.den ρ))(hv:a9 c.nt T yv (v.den ρ))(hf:wE s.ty y=some (cc,g))(hks:de (c.Φ.pk cc) (k.den ρ))(hz:s.os.all SO.SM=true)(hK:(K s).Ok)
  (him:c.Φ.im cc=false) (hok:∀es,dA c.P c.Φ G Γ cc (ig ρ g) es->dA c.P c.Φ G Γ cc (ig ρ g) (cy (k.den ρ) (v.den ρ) es)):Hv c T G Γ ops i s ρ K:=by
 obtain⟨b,q1,q2⟩:=hk.ty (iP hf);obtain⟨g0,es,r1,r2,r3⟩:=hk.q.ht.b _ _ q2;have q1:(ρ y).vv=.cV b:=q1;rw[q1]at hm;have hnf:nf (v.den ρ):=uL v ρ;refine fI.re hg hd ho hu hM hm hkk hv hks hnf r1 r3.1 ⟨rfl,rfl,updΓ Γ b (.map cc (ig ρ g)),ρ,s,hK,dh.refl _ _,zad _,hk.sat,?_⟩
 have hQ:=hk.q.Qr (x:=.map cc (ig ρ g)) (y:=.map cc (ig ρ g)) (tys':=[]) (g':=.map (cy (k.den ρ) (v.den ρ) es)) q2 him (oq.refl _) (fun el size C h=>by rw[r1]at h;cases h)
  (fun hr hl=>⟨g0,_,aA _ _ _,fun p hp=>by
   rcases eU hp with h|h
   ·rw[h];exact hnf
   ·exact r2 p h,(hok es r3).le hr hl rfl⟩) (fun f h=>by cases h) (fun _ _ _ o ho2=>by obtain⟨o1,h1,rfl⟩:=List.mem_map.1 ho2;exact SO.HU (List.all_eq_true.1 hz o1 h1) ρ)
 exact hQ.iW (fun _ _ h=>h) ⟨[],by simp⟩ (fun f h=>h) (fun p h=>h)
theorem IF {t:TypeId}{ym yk yv:Operand}{m k v:SV}{K:SS->R}(ho:(ae ops i).op=.mapUpdate t ym yk yv)(hg:(ae ops i).guard=none)(hd:(ae ops i).dst=none)(hP:cf.P=c.P)(hΦ:cf.Φ=c.Φ)(hK:dJ cf)(h:(V8 cf t m k v s K).Ok)(hk:Ok c T G Γ ρ s)(hm:a9 c.nt T ym (m.den ρ))(hkk:a9 c.nt T yk (k.den ρ))(hv:a9 c.nt T yv (v.den ρ)):Hv c T G Γ ops i s ρ K:=by
 unfold V8 at h;split at h
 ·rename_i kt et hu;rw[hP]at hu;split at h
  ·rename_i y;split at h
   ·rename_i cc g hf;rw[hΦ]at h;cases hb:(!c.Φ.im cc&&(s.os.all SO.SM&&(gl cf kt (c.Φ.pk cc)&&eC (c.Φ.pk cc) k)))with
    |false=>rw[hb]at h;cases h
    |true =>
     rw[hb]at h;simp only[cond_true]at h;rw[za,za,za,zam]at hb;obtain⟨him,hz,hb⟩:=hb;have hMt:=gm hb.1 hK;rw[hP]at hMt;have hkf:=ew hb.2 ρ;split at h
     ·rename_i kd x _ hmv;split at h
      ·rename_i o hc;obtain⟨fs,c1,c2,c3⟩:=tj hc hΦ hk (fun dv h=>bz h hk) (J:=0) (by rw[LE.bk];exact⟨zby _,rfl⟩);refine yy (pk:=c.Φ.pk cc) ho hg hd hu hMt hk hm hkk hv hf hkf hz h him fun es hes=>?_;obtain⟨h1,h2⟩:=hes;refine⟨er hkf h1,?_⟩;rw[hmv]at h2 ⊢;intro p hp;rcases eU hp with h|h
       ·rw[h];exact⟨fs,c1,c3⟩
       ·exact h2 p h
      ·cases h
     ·rename_i _ hmv;refine yy (pk:=c.Φ.pk cc) ho hg hd hu hMt hk hm hkk hv hf hkf hz h him fun es hes=>?_;obtain⟨h1,h2⟩:=hes;refine⟨er hkf h1,?_⟩;rw[hmv]at h2 ⊢;intro p hp;rcases eU hp with h|h
      ·rw[h];rfl
      ·exact h2 p h
     ·rename_i kd e x z hmv;split at h
      ·rename_i dd hgd;split at h
       ·rename_i j hj;split at h
        ·rename_i f hff;cases hb2:(fK kd&&(aX s j&&(aX s e&&(aX s ((f.sub e).aO (-1))&&s.fz.contains dd))))with
         |false=>rw[hb2]at h;cases h
         |true =>
          rw[hb2]at h;simp only[cond_true]at h;simp only[za]at hb2;obtain⟨b1,b2,b3,b4,b5⟩:=hb2;have b1:=eu b1;subst b1;have e1:=av b2 hk.sat;have e2:=av b3 hk.sat;have e3:=av b4 hk.sat;rw[LE.aE,LE.au]at e3;have hdd:=bz hgd hk;have hfz:=hk.sat.fz dd (List.contains_iff_mem.1 b5);obtain⟨x',m1,m2⟩:=qE hj;obtain⟨j',m3,m4⟩:=qC hff;obtain⟨_,_,f3⟩:=hk.sat.dB _ m3;have f3:(((ρ dd).gg.fl (j'.ev ρ).toNat:Nat):Int)=f.ev ρ:=f3;rw[m4 ρ]at f3
          obtain⟨a1,a2⟩:=(hk.sat.ats _ m1).resolve_right fun hr=>by
           have hr:j.ev ρ<0:=hr.1;omega
          have a2:Bu (ρ dd).gg (x'.den ρ)=some (j.ev ρ).toNat:=a2;rw[m2 ρ]at a2;refine yy (pk:=c.Φ.pk cc) ho hg hd hu hMt hk hm hkk hv hf hkf hz h him fun es hes=>?_;obtain⟨h1,h2⟩:=hes;refine⟨er hkf h1,?_⟩;rw[hmv]at h2 ⊢;obtain⟨hpk,hz,hrs,hfi⟩:=h2;refine⟨hpk,hz,hrs,fun p hp=>?_⟩;rcases wO hp with hp'|⟨hp1,hp2⟩
          ·exact hfi p hp'
          ·have hpkey:=er hkf h1 p hp;rw[hpk]at hkf hpkey;obtain⟨l,n,l',n',ek⟩:=hkf;obtain⟨pl,pn,pl',pn',ep⟩:=hpkey;have ek0:AV.agg [x.den ρ,z.den ρ]=.agg [.str l n,.str l' n']:=ek;have ex:x.den ρ=.str l n:=by injection ek0 with e;exact (List.cons.inj e).1
           rw[ex]at a2;have a2:(ρ dd).gg.at_ l n=some (j.ev ρ).toNat:=a2;rw[hdd];rw[hdd]at hrs;refine⟨pl,pn,pl',pn',(e.ev ρ).toNat,(j.ev ρ).toNat,ep,?_,hfz,?_,by omega⟩
           ·rw[hp1];show AV.int .i64 (e.ev ρ)=_;congr 1;exact (zbm e2).symm
           ·rcases hp2 with hp2|hp2
            ·rw[ep]at hp2;have hp2:AV.agg [.str pl pn,.str pl' pn']=.agg [x.den ρ,z.den ρ]:=hp2;rw[ek0]at hp2;injection hp2 with e0;have:=(List.cons.inj e0).1;injection this with e4 e5;subst e4 e5;exact a2
            ·rw[ep]at hp2;have hp2:aZ (.agg [x.den ρ,z.den ρ]) (.agg [.str pl pn,.str pl' pn'])=true:=hp2;rw[ek0]at hp2;have hp2:(aR l n pl pn&&aR l' n' pl' pn')=true:=hp2;rw[za]at hp2;rw[<-hrs l n pl pn hp2.1];exact a2
        ·cases h
       ·cases h
      ·cases h
     ·cases h
   ·cases h
  ·rename_i b;cases hb:(gl cf kt .str&&eC .str k)with
   |false=>rw[hb]at h;cases h
   |true =>
    rw[hb]at h;simp only[cond_true]at h;rw[za]at hb;have hMt:=gm hb.1 hK;rw[hP]at hMt;have hkf:=ew hb.2 ρ;have hm:a9 c.nt T ym (.cV (ρ b).nn):=hm;have hnf:nf (v.den ρ):=uL v ρ;split at h
    ·rename_i b' e0 osA hr;obtain⟨r1,r2⟩:=eK hr;have hbb:b'=b:=aj r1;subst hbb;obtain⟨o1,es,o2,o3⟩:=hk.own (r2.mem_iff.2 (by simp:SO.im b' e0∈osA++[.im b' e0]));have hpd:=dR r2 ρ;rw[zar,zbc]at hpd;split at h
     ·rename_i kd e;cases hb2:(fK kd&&aX s e)with
      |false=>rw[hb2]at h;cases h
      |true =>
       rw[hb2]at h;simp only[cond_true]at h;rw[za]at hb2;have b1:=eu hb2.1;subst b1;have hpos:=av hb2.2 hk.sat
       have fin:∀en:LE,(K (c6 s (osA++[.im b' en]))).Ok->(e0.ev ρ).toNat<=(en.ev ρ).toNat->(e.ev ρ).toNat<(en.ev ρ).toNat->Hv c T G Γ ops i s ρ K:=fun en hKn hle hlt=>by
        refine fI.re hg hd ho hu hMt hm hkk hv hkf hnf o2 (fun p hp=>(o3 p hp).1) ⟨rfl,rfl,Γ,ρ,_,hKn,dh.refl _ _,zad _,⟨hk.sat.fs,hk.sat.bs,hk.sat.pw,hk.sat.ats,hk.sat.dB,hk.sat.ne,hk.sat.fz,hk.sat.sb⟩,?_⟩
        have hQ:=hk.q.vu (b:=(ρ b').nn) (G':=fx G (ρ b').nn (.map (cy (k.den ρ) ((SV.v false [SC.int .i64 e]).den ρ) es))) (Γ':=Γ) (osA:=osA.map (SO.den ρ)) (o:=SO.den ρ (.im b' e0)) (o':=SO.den ρ (.im b' en)) (tys':=[]) hpd (dP (.inl (by rw[o2];rfl))) (fun _ _=>rfl) (fun k h=>dH h) (by rw[aA];rfl)
         (fun _ _ _ h=>by rw[o2]at h;cases h) (fun _ _ _ h=>by rw[o2]at h;cases h) (fun x h=>by rw[o1]at h;cases h) rfl rfl (.inl rfl) rfl (fun x _ _ h=>by rw[o1]at h;cases h)
         (fun hr' hl'=>⟨o1,_,aA _ _ _,fun p hp=>⟨er hkf (fun p hp=>(o3 p hp).1) p hp,by
          rcases eU hp with h|h
          ·exact⟨(e.ev ρ).toNat,by rw[h];show AV.int .i64 (e.ev ρ)=_;congr 1;exact (zbm hpos).symm,hlt⟩
          ·obtain⟨_,n,h1,h2⟩:=o3 p h;exact⟨n,h1,by omega⟩⟩⟩) (fun f h=>by cases h)
        refine hQ.iW (fun _ _ h=>h) ⟨[],?_⟩ (fun f h=>h) (fun p h=>h);show List.Perm _ (((osA++[SO.im b' en]).map (SO.den ρ))++[]);rw[zbg,zar,zbc]
       cases hc:aX s ((e0.sub e).aO (-1))with
       |true =>
        rw[hc]at h;have h2:=av hc hk.sat;rw[LE.aE,LE.au]at h2;exact fin e0 h (zad _) (by omega)
       |false =>
        rw[hc]at h;simp only[cond_false]at h;cases hc2:aX s ((e.aO 1).sub e0)with
        |false=>rw[hc2]at h;cases h
        |true =>
         rw[hc2]at h;have h2:=av hc2 hk.sat;rw[LE.au,LE.aE]at h2;exact fin (e.aO 1) h (by rw[LE.aE];omega) (by rw[LE.aE];omega)
     ·cases h
    ·rename_i b' g q osA hr;obtain⟨r1,r2⟩:=eK hr;have hbb:b'=b:=aj r1;subst hbb;obtain⟨o1,o0,obd,es,o2,o3,o4⟩:=hk.own (r2.mem_iff.2 (by simp:SO.am b' g q∈osA++[.am b' g q]));have hpd:=dR r2 ρ;rw[zar,zbc]at hpd;unfold ZP at h;split at h
     ·rename_i dd x kd e hgw;split at h
      ·rename_i ea hat;cases hb2:(aX s ((LE.k (-1)).sub ea)&&(fK kd&&(aX s e&&(aX s (((LE.a (.gn dd q)).sub e).aO (-1))&&(x.lt s.nx&&(e.lt s.nx&&(Nat.blt dd s.nx&&(bG s.nx g&&(Nat.blt b' s.nx&&(osA.all K5&&osA.all (SO.lt s.nx)))))))))))with
       |false=>rw[hb2]at h;cases h
       |true =>
        rw[hb2]at h;simp only[cond_true]at h;simp only[za]at hb2;obtain⟨b1,b2,b3,b4,b5,b6,b7,b8,b9,b10,b11⟩:=hb2;have b2:=eu b2;subst b2;have e1:=av b1 hk.sat;rw[LE.au,LE.bk]at e1;have e2:=av b3 hk.sat;have e3:=av b4 hk.sat;rw[LE.aE,LE.au,LE.aV]at e3;have e3:0<=(((ρ dd).gg.n q:Nat):Int)-e.ev ρ+-1:=e3;obtain⟨x',m1,m2⟩:=qE hat
        obtain⟨_,a2⟩:=(hk.sat.ats _ m1).resolve_left fun hr=>by
         have hr:0<=ea.ev ρ:=hr.1;omega
        have a2:Bu (ρ dd).gg (x'.den ρ)=none:=a2;rw[m2 ρ]at a2;have hmemg:=gL hgw;have hgs:=hk.q.gs (ig ρ g,(ρ dd).gg,true) (List.mem_map.2 ⟨(g,dd,true),hmemg,rfl⟩);obtain⟨g1,g2,g3⟩:=hgs;have g2:Γ.gd (ig ρ g)=(ρ dd).gg:=g2;obtain⟨g3,g4,g5⟩:=g3 rfl;have g4:(ρ dd).gg.fz=false:=g4;obtain⟨lx,mx,ek⟩:=hkf;have ex:x.den ρ=.str lx mx:=ek;rw[ex]at a2;have a2:(ρ dd).gg.at_ lx mx=none:=a2;rw[g2]at obd o4
        -- the new ghost
        let dn:Gd:=⟨(ρ dd).gg.n,fun l m=>bif aR l m lx mx then some (e.ev ρ).toNat else (ρ dd).gg.at_ l m,(ρ dd).gg.fl,false,(ρ dd).gg.sub⟩
        have hsame:∀l m,aR l m lx mx=true->(ρ dd).gg.at_ l m=none:=fun l m hs=>by
         have h1:=o4 l m;have h2:=o4 lx mx;rw[uS (pk:=.str) (x:=.str l m) (k:=.str lx mx) ⟨l,m,rfl⟩ ⟨lx,mx,rfl⟩ hs fun p hp=>(o3 p hp).1,h2,a2]at h1;cases hc:(ρ dd).gg.at_ l m with
         |none=>rfl
         |some j=>rw[hc]at h1;cases h1
        have hle:(ρ dd).gg.Le dn:=by
         refine⟨fun k=>zad _,fun l m j hj=>?_,fun hz=>?_,rfl⟩
         ·show (bif aR l m lx mx then some (e.ev ρ).toNat else (ρ dd).gg.at_ l m)=some j;cases hs:aR l m lx mx with
          |true=>rw[hsame l m hs]at hj;cases hj
          |false=>exact hj
         ·rw[g4]at hz;cases hz
        refine fI.re hg hd ho hu hMt hm hkk hv ⟨lx,mx,ek⟩ hnf o2 (fun p hp=>(o3 p hp).1) ⟨rfl,rfl,iq Γ (ig ρ g) dn Γ.ng,?_⟩
        -- the map,exactly
        have hQ1:=hk.q.vu (b:=(ρ b').nn) (G':=fx G (ρ b').nn (.map (cy ((SV.v false [x]).den ρ) ((SV.v false [SC.int .i64 e]).den ρ) es))) (Γ':=Γ) (osA:=osA.map (SO.den ρ)) (o:=SO.den ρ (.am b' g q)) (o':=.map (ρ b').nn .str (cy ((SV.v false [x]).den ρ) ((SV.v false [SC.int .i64 e]).den ρ) es)) (tys':=[]) hpd (dP (.inl (by rw[o2];rfl))) (fun _ _=>rfl) (fun k h=>dH h) (by rw[aA];rfl)
         (fun _ _ _ h=>by rw[o2]at h;cases h) (fun _ _ _ h=>by rw[o2]at h;cases h) (fun x h=>by rw[o1]at h;cases h) rfl rfl (.inl rfl) rfl (fun x _ _ h=>by rw[o1]at h;cases h)
         (fun hr' hl'=>⟨aA _ _ _,o1,er (pk:=.str) ⟨lx,mx,ek⟩ fun p hp=>(o3 p hp).1⟩) (fun f h=>by cases h)
        have hnoam:∀b g' k',Own.am b g' k'∈osA.map (SO.den ρ)++[.map (ρ b').nn .str (cy ((SV.v false [x]).den ρ) ((SV.v false [SC.int .i64 e]).den ρ) es)]->False:=fun b g' k' hm=>by
         rcases List.mem_append.1 hm with hm|hm
         ·obtain⟨o,h1,h2⟩:=List.mem_map.1 hm;have:=List.all_eq_true.1 b10 o h1;cases o<;>first|(cases h2;done)|skip
          cases this
         ·have:=List.mem_singleton.1 hm;cases this
        have hQ2:=hQ1.IC (g:=ig ρ g) (d0:=(ρ dd).gg) (dn:=dn) (w:=true) (gs':=(ig ρ g,dn,true)::(mf s).map fun p=>(ig ρ p.1,(ρ p.2.1).gg,p.2.2)) (List.mem_map.2 ⟨(g,dd,true),hmemg,rfl⟩) hle (fun _=>rfl) (fun b g' k' hm=>(hnoam b g' k' hm).elim) (fun p hp=>by
         rcases List.mem_cons.1 hp with rfl|hp
         ·exact .inl rfl
         ·obtain⟨p0,h1,rfl⟩:=List.mem_map.1 hp;obtain⟨k1,k2⟩:=rH (g:=ig ρ g) hk h1 (by rw[g2];exact g4)
          exact .inr ⟨List.mem_map.2 ⟨p0,k1,rfl⟩,k2⟩)
        have hgdn:(iq Γ (ig ρ g) dn Γ.ng).gd (ig ρ g)=dn:=gq _ _ _ _
        have hown3:df c.P c.Φ (fx G (ρ b').nn (.map (cy ((SV.v false [x]).den ρ) ((SV.v false [SC.int .i64 e]).den ρ) es))) (iq Γ (ig ρ g) dn Γ.ng) (.am (ρ b').nn (ig ρ g) q):=by
         refine⟨o1,o0,?_,_,aA _ _ _,fun p hp=>⟨er (pk:=.str) ⟨lx,mx,ek⟩ (fun p hp=>(o3 p hp).1) p hp,?_⟩,?_⟩
         ·rw[hgdn];intro l n j hj;have hj:(bif aR l n lx mx then some (e.ev ρ).toNat else (ρ dd).gg.at_ l n)=some j:=hj;cases hs:aR l n lx mx with
          |true=>rw[hs]at hj;cases hj;show (e.ev ρ).toNat<(ρ dd).gg.n q;omega
          |false=>rw[hs]at hj;exact obd l n j hj
         ·rcases eU hp with h|h
          ·rw[h];exact hnf
          ·exact (o3 p h).2
         ·rw[hgdn];intro l n;rw[rb (pk:=.str) ⟨lx,mx,ek⟩ ⟨l,n,rfl⟩ fun p hp=>(o3 p hp).1];rw[show (SV.v false [x]).den ρ=.str lx mx from ek];show (if aR l n lx mx=true then _ else _)=Option.map _ (bif aR l n lx mx then some (e.ev ρ).toNat else (ρ dd).gg.at_ l n);cases hs:aR l n lx mx with
          |true =>
           rw[if_pos rfl];show some (AV.int .i64 (e.ev ρ))=some (AV.int .i64 (.ofNat (e.ev ρ).toNat));congr 2;exact (zbm e2).symm
          |false=>rw[if_neg (by decide)];exact o4 l n
        have hQ3:=hQ2.conv (osA:=osA.map (SO.den ρ)) (o':=.am (ρ b').nn (ig ρ g) q) (List.Perm.refl _) rfl hown3
        obtain⟨p1,p2,p3,p4⟩:=az h hk (.g dn);have hgg:(ρ.up s.nx (.g dn) s.nx).gg=dn:=by rw[p4];rfl
        have eD:=(SS.cg (dK h) p2).1;have hdd:=p2 dd (ax b7);have eO:osA.map (SO.den (ρ.up s.nx (.g dn)))=osA.map (SO.den ρ):=zav fun o ho=>SO.cg p2 (List.all_eq_true.1 b11 o ho);refine⟨ρ.up s.nx (.g dn),_,p1,p2,zan _,yw ⟨⟨p3.sat.fs,p3.sat.bs,p3.sat.pw,fun p hp=>?_,p3.sat.dB,p3.sat.ne,p3.sat.fz,fun p hp=>?_⟩,?_⟩ fun k=>by rw[hgg,hdd]⟩
        ·rcases List.mem_append.1 hp with hp|hp
         ·rcases List.mem_cons.1 hp with rfl|hp
          ·refine .inl ⟨by show 0<=e.ev _;rw[LE.cg p2 b6];exact e2,?_⟩;show Bu (ρ.up s.nx (.g dn) s.nx).gg (x.den (ρ.up s.nx (.g dn)))=some (e.ev (ρ.up s.nx (.g dn))).toNat;rw[hgg,SC.cg p2 b5,LE.cg p2 b6,ex];show (bif aR lx mx lx mx then some (e.ev ρ).toNat else (ρ dd).gg.at_ lx mx)=_;rw[iG];rfl
          ·obtain⟨p0,hp0,rfl⟩:=List.mem_map.1 hp;obtain⟨h1,h2⟩:=List.mem_filter.1 hp0;rw[za]at h2;have hs0:=p3.sat.ats p0 h1;unfold P4 at hs0 ⊢;have ed:=aj h2.1;rw[ed,hdd]at hs0
           have hpos:0<=p0.2.2.ev (ρ.up s.nx (.g dn)):=by
            exact DM (s:=s) (fun f hf=>p3.sat.fs f hf) h2.2
           rcases hs0 with ⟨a3,a4⟩|⟨a3,_⟩
           ·refine .inl ⟨a3,?_⟩;show Bu (ρ.up s.nx (.g dn) s.nx).gg _=_;rw[hgg];unfold Bu at a4 ⊢;split
            ·rename_i l m hv';rw[hv']at a4;exact hle.at_ l m _ a4
            ·rename_i hv';split at a4
             ·rename_i l m hv2;exact absurd hv2 (hv' l m)
             ·cases a4
           ·exact absurd hpos (by omega)
         ·exact p3.sat.ats p hp
        ·rcases List.mem_append.1 hp with hp|hp
         ·exact tq (dd:=dd) (dn:=s.nx) (by rw[hgg,hdd]) p3.sat.sb p hp
         ·exact p3.sat.sb p hp
        ·have:(sW (aC s) g s.nx true (osA++[.am b' g q]) ((s.nx,x,e)::Ni s dd s.nx) [] [] (ou s.sb dd s.nx)).den (ρ.up s.nx (.g dn))=⟨(s.den ρ).L,osA.map (SO.den ρ)++[.am (ρ b').nn (ig ρ g) q],(s.den ρ).eF,(ig ρ g,dn,true)::(mf s).map fun p=>(ig ρ p.1,(ρ p.2.1).gg,p.2.2)⟩:=by
           refine St.ext' (by have:=congrArg St.L eD;exact this) ?_ (by have:=congrArg St.eF eD;exact this) ?_
           ·show (osA++[SO.am b' g q]).map (SO.den _)=_;rw[zar,eO,zbc];simp only[SO.den];rw[p2 b' (ax b9),bR p2 b8]
           ·show (ig (ρ.up s.nx (.g dn)) g,(ρ.up s.nx (.g dn) s.nx).gg,true)::(mf s).map (fun p=>(ig (ρ.up s.nx (.g dn)) p.1,(ρ.up s.nx (.g dn) p.2.1).gg,p.2.2))=_;rw[hgg,bR p2 b8];congr 1;refine zav fun p hp=>?_;have hs:=dK h;unfold SS.ok at hs;simp only[za,zb]at hs;have:=hs.2.2.2.1 p (List.mem_filter.1 hp).1;rw[bR p2 this.1,p2 _ (ax this.2)]
         rw[this];exact hQ3.iW (fun _ _ h=>h) ⟨[],by rw[zbg]⟩ (fun f h=>h) (fun p h=>h)
      ·cases h
     ·cases h
    ·cases h
  ·cases h
 ·cases h
end
end Go.Rd
namespace Go.Rd
open Go.aK Go.RowKit Go.Rt
def Xc (b:Nat):SO->Bool|.km y _ _ _=>Nat.beq y b|_=>false
def Xd (b:Nat):SO->Bool|.it y _ _ _ _ _=>Nat.beq y b|_=>false
def Xe (b cc g:Nat)(n:LE)(osA:List SO)(s:SS)(K:SS->R):R:=fresh s fun x s'=>K (aF (aF (c6 s' (osA++[.km b cc g (.a (.n x))])) ((LE.a (.n x)).sub n)) ((n.aO 1).sub (.a (.n x))))
def ZQ (cf:Cf)(t:TypeId)(b cc g:Nat)(n:LE)(osA:List SO)(k v:SV)(s:SS)(K:SS->R):R:=match cf.P.underlying t with
 |some (.map kt et)=>bif gl cf kt (cf.Φ.pk cc)&&(eC (cf.Φ.pk cc) k&&(n.lt s.nx&&(aX s n&&Nat.blt b s.nx)))then
  (match cf.Φ.mv cc,v with
   |.kd kd,.v false [x]=>(match mB cf s g (ghost s.gs g) (.k 0) kd x with|some _=>Xe b cc g n osA s K|none=>.bad 230 s)
   |.unit,.v true []=>Xe b cc g n osA s K
   |_,_=>.bad 231 s)
  else .bad 232 s
 |_=>.bad 233 s
def K6 (cf:Cf)(t:TypeId)(m k v:SV)(s:SS)(K:SS->R):R:=match m with
 |.v false [.cV b]=>(match mD (Xc b) s.os with
  |some (.km _ cc g n,osA)=>ZQ cf t b cc g n osA k v s K
  |_=>V8 cf t m k v s K)
 |_=>V8 cf t m k v s K
def Nj:List SO->Nat->Option (Nat×Nat×LE)
 | [],_=>none
 |.rm y c g n::l,x=>bif Nat.beq y x then some (c,g,n)else Nj l x
 |_::l,x=>Nj l x
theorem gr:∀{l:List SO}{x c g:Nat}{n:LE},Nj l x=some (c,g,n)->SO.rm x c g n∈l
 | [],_,_,_,_,h=>by cases h
 |.rm y c' g' n'::l,x,c,g,n,h=>by
  have h:(bif Nat.beq y x then some (c',g',n')else Nj l x)=some (c,g,n):=h;cases hb:Nat.beq y x with
  |true=>rw[hb]at h;cases h;have:=aj hb;subst this;exact zac ..
  |false=>rw[hb]at h;exact zaa _ (gr h)
 |.loc _ _ _::l,_,_,_,_,h=>zaa _ (gr (l:=l) h)
 |.jg _ _::l,_,_,_,_,h=>zaa _ (gr (l:=l) h)
 |.em _ _::l,_,_,_,_,h=>zaa _ (gr (l:=l) h)
 |.ul _ _ _::l,_,_,_,_,h=>zaa _ (gr (l:=l) h)
 |.am _ _ _::l,_,_,_,_,h=>zaa _ (gr (l:=l) h)
 |.im _ _::l,_,_,_,_,h=>zaa _ (gr (l:=l) h)
 |.bl _ _ _::l,_,_,_,_,h=>zaa _ (gr (l:=l) h)
 |.km _ _ _ _::l,_,_,_,_,h=>zaa _ (gr (l:=l) h)
 |.kq _ _ _ _ _::l,_,_,_,_,h=>zaa _ (gr (l:=l) h)
 |.it _ _ _ _ _ _::l,_,_,_,_,h=>zaa _ (gr (l:=l) h)
def Xf (cf:Cf)(t:TypeId)(v:SV)(d:Nat)(s:SS)(K:SS->R):R:=match cf.P.underlying t with
 |some (.map _ _)=>(match v with
  |.v false [.bg]=>fresh s fun b s=>K (eG (fN s (.it b .bg (.k 0) (.k 0) false false)) d (sc (.bZ b 0)))
  |.v false [.cV y]=>(match tn s.os y with
   |some (.km _ _ n)=>bif n.lt s.nx&&Nat.blt y s.nx then fresh s fun b s=>K (eG (fN s (.it b (.cV y) n n false false)) d (sc (.bZ b 0)))else .bad 234 s
   |_=>.bad 235 s)
  |.v false [.ref y]=>(match Nj s.os y with
   |some (_,_,n)=>bif n.lt s.nx&&Nat.blt y s.nx then fresh s fun b s=>K (eG (fN s (.it b (.ref y) n n false false)) d (sc (.bZ b 0)))else .bad 234 s
   |none=>(match wE s.ty y with
   |some (cc,_)=>bif Nat.blt y s.nx then fresh s fun n s=>fresh s fun b s=>K (eG (fN s (.it b (.ref y) (.a (.n n)) (.a (.n n)) false true)) d (sc (.bZ b 0)))else .bad 236 s
   |none=>.bad 237 s))
  |_=>.bad 238 s)
 |_=>.bad 239 s
def V9 (s:SS)(m:SC)(n:LE)(ty:Bool):Option (Nat×Nat):=match m with
 |.cV y=>(match tn s.os y with|some (.km cc g n')=>bif aX s (n.sub n')&&aX s (n'.sub n)then some (cc,g)else none|_=>none)
 |.ref y=>bif ty then wE s.ty y else (match Nj s.os y with|some (cc,g,n')=>bif aX s (n.sub n')&&aX s (n'.sub n)then some (cc,g)else none|none=>none)
 |_=>none
def Nk:List SO->Nat->Option (SC×LE×LE×Bool×Bool)
 | [],_=>none
 |.it y m n r st ty::l,x=>bif Nat.beq y x then some (m,n,r,st,ty)else Nk l x
 |_::l,x=>Nk l x
def TN (pk:KK)(s:SS)(K:Bool×List SC->SS->R):R:=match pk with
 |.kz=>fresh s fun x s=>K (false,[.str x]) s
 |.int=>fresh s fun x s=>K (false,[.int .i64 (.a (.z x))]) s
 |.fy=>fresh s fun x s=>fresh s fun y s=>K (true,[.int .i64 (.a (.z x)),.int .i64 (.a (.z y))]) s
 |_=>.bad 240 s
def Wa (d bd:Nat)(e:LE)(s:SS):SS:=aF (aF s e) (((LE.a (.gn d bd)).sub e).aO (-1))
def SU (g:Nat)(mv:MV)(k:Bool×List SC)(s:SS):SS:=match mv,k,ghost s.gs g with
 |.kn bd _,(false,[.int _ e]),some d=>Wa d bd e s
 |.kn bd _,(true,[.int _ a,.int _ b]),some d=>Wa d bd b (Wa d bd a s)
 |_,_,_=>s
def QK (cf:Cf)(g:Nat)(mv:MV)(s:SS)(K:Bool×List SC->SS->R):R:=match mv with
 |.kd kd=>bif bG s.nx g&&AM s.nx (ghost s.gs g)then pI cf g (ghost s.gs g) (.k 0) kd s fun x _ s=>K (false,[x]) s else .bad 241 s
 |.kn _ kd=>bif bG s.nx g&&AM s.nx (ghost s.gs g)then pI cf g (ghost s.gs g) (.k 0) kd s fun x _ s=>K (false,[x]) s else .bad 241 s
 |.unit=>K (true,[]) s
 |_=>.bad 242 s
def K7 (cf:Cf)(cc g:Nat)(s:SS)(K:Bool×List SC->Bool×List SC->SS->R):R:=bif bG s.nx g then TN (cf.Φ.pk cc) s fun k s=>QK cf g (cf.Φ.mv cc) (SU g (cf.Φ.mv cc) k s) fun v s=>K k v s else .bad 243 s
def Kl (cf:Cf)(v:SV)(d:Nat)(s:SS)(K:SS->R):R:=match v with
 |.v false [.bZ b 0]=>(match Nk s.os b with
  |some (.bg,_,_,_,_)=>K (eG s d (.cN [(false,[.bool (.k false)])]))
  |some (m,n,r,_,ty)=>(match V9 s m n ty with
   |some (cc,g)=>bif Nat.blt b s.nx then (bif aX s (r.aO (-1))then .ok else K (eG s d (.cN [(false,[.bool (.k false)])]))).and
    (bif aX s ((LE.k 0).sub r)then .ok else K7 cf cc g s fun k e s=>(match mD (Xd b) s.os with
     |some (.it _ m n r _ ty,osA)=>bif aX s r then K (eG (aF (c6 s (osA++[.it b m n (r.aO (-1)) true ty])) (r.aO (-1))) d (.cN [(false,[.bool (.k true)]),k,e]))else .bad 248 s
     |_=>.bad 244 s))else .bad 252 s
   |none=>.bad 245 s)
  |none=>.bad 246 s)
 |_=>.bad 247 s
def QL (cf:Cf)(v:SV)(s:SS)(K:SV->SS->R):R:=match v with
 |.v false [.bZ b 0]=>(match Nk s.os b with
  |some (m,n,r,true,ty)=>(match V9 s m n ty with
   |some (cc,g)=>K7 cf cc g s fun k e s=>K (.cN [k,e]) s
   |none=>.bad 249 s)
  |_=>.bad 250 s)
 |_=>.bad 251 s
theorem F4 {n:Nat}{seen:List Nat}(h:∀j,j<n->j∈seen):left n seen=0:=by
 unfold left;rw[List.length_eq_zero_iff,List.filter_eq_nil_iff];intro j hj;simp[h j (List.mem_range.1 hj)]
theorem IG {n j:Nat}{seen:List Nat}(hj:j<n)(h:j∉seen):left n (seen++[j])+1=left n seen:=by
 unfold left
 have key:∀l:List Nat,l.Nodup->j∈l->(l.filter fun i=>!(seen++[j]).contains i).length+1=(l.filter fun i=>!seen.contains i).length:=by
  intro l
  induction l with
  |nil=>intro _ h;cases h
  |cons x l ih =>
   intro hnd hm;rw[List.nodup_cons]at hnd;by_cases e:x=j
   ·subst e;have h1:(!(seen++[x]).contains x)=false:=by simp
    have h2:(!seen.contains x)=true:=by simpa using h
    rw[zei,zei,h1,h2];simp only[zaf,if_false,if_true,zbi];congr 1;congr 1;refine List.filter_congr fun i hi=>?_;have:i≠x:=fun e=>hnd.1 (e▸hi);simp[this]
   ·have hm':j∈l:=by rcases List.mem_cons.1 hm with e'|e'
                     ·exact absurd e'.symm e
                     ·exact e'
    have:=ih hnd.2 hm';have h1:(!(seen++[j]).contains x)=(!seen.contains x):=by simp[e]
    rw[zei,zei,h1];cases hb:(!seen.contains x)with
    |true=>simp only[if_true,zbi];omega
    |false=>simp only[zaf,if_false];exact this
 exact key _ List.nodup_range (List.mem_range.2 hj)
theorem qI (n:Nat):left n []=n:=by
 unfold left;have h:(List.range n).filter (fun j=>!([]:List Nat).contains j)=List.range n:=List.filter_eq_self.2 fun _ _=>rfl;rw[h,List.length_range]
theorem wP {k v:AV}{es:List (AV×AV)}:es.length<=(cy k v es).length/\(cy k v es).length<=es.length+1:=by
 cases h:cn k es with
 |none=>rw[ll h,zak];simp
 |some v0=>rw[nB h];omega
theorem fL:∀{l:List SO}{x:Nat}{m:SC}{n r:LE}{st ty:Bool},Nk l x=some (m,n,r,st,ty)->SO.it x m n r st ty∈l
 | [],_,_,_,_,_,_,h=>by cases h
 |.it y m' n' r' st' ty'::l,x,m,n,r,st,ty,h=>by
  have h:(bif Nat.beq y x then some (m',n',r',st',ty')else Nk l x)=some (m,n,r,st,ty):=h;cases hb:Nat.beq y x with
  |true=>rw[hb]at h;cases h;have:=aj hb;subst this;exact zac ..
  |false=>rw[hb]at h;exact zaa _ (fL h)
 |.loc _ _ _::l,_,_,_,_,_,_,h=>zaa _ (fL (l:=l) h)
 |.jg _ _::l,_,_,_,_,_,_,h=>zaa _ (fL (l:=l) h)
 |.em _ _::l,_,_,_,_,_,_,h=>zaa _ (fL (l:=l) h)
 |.ul _ _ _::l,_,_,_,_,_,_,h=>zaa _ (fL (l:=l) h)
 |.am _ _ _::l,_,_,_,_,_,_,h=>zaa _ (fL (l:=l) h)
 |.im _ _::l,_,_,_,_,_,_,h=>zaa _ (fL (l:=l) h)
 |.bl _ _ _::l,_,_,_,_,_,_,h=>zaa _ (fL (l:=l) h)
 |.km _ _ _ _::l,_,_,_,_,_,_,h=>zaa _ (fL (l:=l) h)
 |.rm _ _ _ _::l,_,_,_,_,_,_,h=>zaa _ (fL (l:=l) h)
 |.kq _ _ _ _ _::l,_,_,_,_,_,_,h=>zaa _ (fL (l:=l) h)
section
variable {c:Cx}{T:Tm}{G:GH}{Γ:dI}{ρ ρ':bm}{s s':SS}{cf:Cf}{ops:Array Oper}{i d:Nat}
theorem Ok.K8 {G':GH}{osA:List SO}{o:SO}(h:Ok c T G Γ ρ s)(hq:Q c T G' Γ ⟨(s.den ρ).L,osA.map (SO.den ρ)++[o.den ρ],[]++(s.den ρ).eF,(s.den ρ).gs⟩):Ok c T G' Γ ρ (c6 s (osA++[o])):=by
 refine⟨⟨h.sat.fs,h.sat.bs,h.sat.pw,h.sat.ats,h.sat.dB,h.sat.ne,h.sat.fz,h.sat.sb⟩,?_⟩;refine hq.iW (fun _ _ h=>h) ⟨[],?_⟩ (fun f h=>h) (fun p h=>h);show List.Perm _ (((osA++[o]).map (SO.den ρ))++[]);rw[zbg,zar,zbc]
theorem IH {t kt et:TypeId}{ym yk yv:Operand}{b cc g:Nat}{n:LE}{osA:List SO}{k v:SV}{K:SS->R}(ho:(ae ops i).op=.mapUpdate t ym yk yv)(hg:(ae ops i).guard=none)(hd:(ae ops i).dst=none)(hu:c.P.underlying t=some (.map kt et))(hM:lj c.P kt (c.Φ.pk cc))(hk:Ok c T G Γ ρ s)(hm:a9 c.nt T ym (.cV (ρ b).nn))(hkk:a9 c.nt T yk (k.den ρ))(hv:a9 c.nt T yv (v.den ρ))(hks:de (c.Φ.pk cc) (k.den ρ))
  (hr:s.os.Perm (osA++[.km b cc g n])) (hnl:n.lt s.nx=true) (hn0:0<=n.ev ρ) (hbl:b<s.nx) (h:(Xe b cc g n osA s K).Ok)
  (hok:∀es,JQ (c.Φ.mv cc)=true->dA c.P c.Φ G Γ cc (ig ρ g) es->dA c.P c.Φ G Γ cc (ig ρ g) (cy (k.den ρ) (v.den ρ) es)):Hv c T G Γ ops i s ρ K:=by
 obtain⟨o1,o2,o3,es,o4,o5,o6,o7⟩:=hk.own (hr.mem_iff.2 (by simp:SO.km b cc g n∈osA++[.km b cc g n]));have hnf:nf (v.den ρ):=uL v ρ;obtain⟨r1,r2,r3,r4⟩:=az h hk (.n (cy (k.den ρ) (v.den ρ) es).length);have hx:(LE.a (.n s.nx)).ev (ρ.up s.nx (.n (cy (k.den ρ) (v.den ρ) es).length))=(cy (k.den ρ) (v.den ρ) es).length:=by rw[LE.aV];show ((ρ.up s.nx _ s.nx).nn:Int)=_;rw[r4];rfl
 have hbb:(ρ.up s.nx (.n (cy (k.den ρ) (v.den ρ) es).length) b).nn=(ρ b).nn:=by rw[r2 b hbl]
 have hown:df c.P c.Φ G Γ (SO.den (ρ.up s.nx (.n (cy (k.den ρ) (v.den ρ) es).length)) (.km b cc g n)):=r3.own (hr.mem_iff.2 (by simp:SO.km b cc g n∈osA++[.km b cc g n]))
 have hgg:ig (ρ.up s.nx (.n (cy (k.den ρ) (v.den ρ) es).length)) g=ig ρ g:=by
  have hl:=dK h;unfold SS.ok at hl;simp only[za,zb]at hl;have:=hl.2.1 _ (hr.mem_iff.2 (by simp:SO.km b cc g n∈osA++[.km b cc g n]));simp only[SO.lt,za]at this;exact bR r2 this.2.1
 have hlen:=wP (k:=k.den ρ) (v:=v.den ρ) (es:=es);have hev:=LE.cg r2 hnl;have hnn:es.length=(n.ev ρ).toNat:=o5;refine fI.re hg hd ho hu hM hm hkk hv hks hnf o4 o7.1 ⟨rfl,rfl,Γ,_,_,r1,r2,zan _,?_⟩;have hpd:=dR hr (ρ.up s.nx (.n (cy (k.den ρ) (v.den ρ) es).length));rw[zar,zbc]at hpd
 have hQ:=r3.q.vu (b:=(ρ b).nn) (G':=fx G (ρ b).nn (.map (cy (k.den ρ) (v.den ρ) es))) (Γ':=Γ) (osA:=osA.map (SO.den (ρ.up s.nx (.n (cy (k.den ρ) (v.den ρ) es).length)))) (o:=SO.den (ρ.up s.nx (.n (cy (k.den ρ) (v.den ρ) es).length)) (.km b cc g n)) (o':=SO.den (ρ.up s.nx (.n (cy (k.den ρ) (v.den ρ) es).length)) (.km b cc g (.a (.n s.nx)))) (tys':=[]) hpd (dP (.inl (by rw[o4];rfl))) (fun _ _=>rfl) (fun k h=>dH h) (by rw[aA];rfl)
  (fun _ _ _ h=>by rw[o4]at h;cases h) (fun _ _ _ h=>by rw[o4]at h;cases h) (fun x h=>by rw[o1]at h;cases h) rfl rfl (.inl (by show some _=some _;rw[hbb])) (by show some _=some _;rw[hbb]) (fun x _ _ h=>by rw[o1]at h;cases h)
  (fun hr' hl'=>?_) (fun f h=>by cases h)
 ·refine ((Ok.K8 r3 hQ).aF ?_).aF ?_
  ·rw[LE.au,hx,hev];omega
  ·rw[LE.au,LE.aE,hx,hev];omega
 ·show df c.P c.Φ _ Γ (.km _ cc _ _);rw[hbb,hgg,hx];refine⟨o1,o2,o3,cy (k.den ρ) (v.den ρ) es,aA _ _ _,by simp,fun p hp=>?_,(hok es o3 o7).Gw o3 hr' hl' o2⟩;rcases eU hp with h|h
  ·rw[h];exact hnf
  ·exact o6 p h
theorem D5 {t:TypeId}{ym yk yv:Operand}{m k v:SV}{K:SS->R}(ho:(ae ops i).op=.mapUpdate t ym yk yv)(hg:(ae ops i).guard=none)(hd:(ae ops i).dst=none)(hP:cf.P=c.P)(hΦ:cf.Φ=c.Φ)(hK:dJ cf)(h:(K6 cf t m k v s K).Ok)(hk:Ok c T G Γ ρ s)(hm:a9 c.nt T ym (m.den ρ))(hkk:a9 c.nt T yk (k.den ρ))(hv:a9 c.nt T yv (v.den ρ)):Hv c T G Γ ops i s ρ K:=by
 unfold K6 at h;split at h
 ·rename_i b;split at h
  ·rename_i b' cc g n osA hr;obtain⟨r1,r2⟩:=eK hr;have hbb:b'=b:=aj r1;subst hbb;unfold ZQ at h;split at h
   ·rename_i kt et hu;rw[hP]at hu;rw[hΦ]at h;cases hb:(gl cf kt (c.Φ.pk cc)&&(eC (c.Φ.pk cc) k&&(n.lt s.nx&&(aX s n&&Nat.blt b' s.nx))))with
    |false=>rw[hb]at h;cases h
    |true =>
     rw[hb]at h;simp only[cond_true]at h;simp only[za]at hb;obtain⟨b1,b2,b3,b4,b5⟩:=hb;have hMt:=gm b1 hK;rw[hP]at hMt;have hkf:=ew b2 ρ;split at h
     ·rename_i kd x hmv;split at h
      ·rename_i o hc;obtain⟨fs,c1,c2,c3⟩:=tj hc hΦ hk (fun dv h=>bz h hk) (J:=0) (by rw[LE.bk];exact⟨zby _,rfl⟩);refine IH ho hg hd hu hMt hk hm hkk hv hkf r2 b3 (av b4 hk.sat) (ax b5) h fun es _ hes=>?_;obtain⟨h1,h2⟩:=hes;refine⟨er hkf h1,?_⟩;rw[hmv]at h2 ⊢;intro p hp;rcases eU hp with h|h
       ·rw[h];exact⟨fs,c1,c3⟩
       ·exact h2 p h
      ·cases h
     ·rename_i hmv;refine IH ho hg hd hu hMt hk hm hkk hv hkf r2 b3 (av b4 hk.sat) (ax b5) h fun es _ hes=>?_;obtain⟨h1,h2⟩:=hes;refine⟨er hkf h1,?_⟩;rw[hmv]at h2 ⊢;intro p hp;rcases eU hp with h|h
      ·rw[h];rfl
      ·exact h2 p h
     ·cases h
   ·cases h
  ·exact IF ho hg hd hP hΦ hK h hk hm hkk hv
 ·exact IF ho hg hd hP hΦ hK h hk hm hkk hv
theorem D6 {b:Nat}{m:SC}{n r:LE}{st ty:Bool}{g0:Gh}{u:U}(hb:c.n0<=b)(hb':G b=none)(hu:u.nn=b)(hk:Ok c T G Γ (ρ.up s.nx u) (aC s))(h4:(ρ.up s.nx u) s.nx=u)(hok:Γ.m b=none->df c.P c.Φ (fx G b g0) Γ (.it b (m.den (ρ.up s.nx u)) (n.ev (ρ.up s.nx u)).toNat (r.ev (ρ.up s.nx u)).toNat st ty)):Ok c T (fx G b g0) Γ (ρ.up s.nx u) (fN (aC s) (.it s.nx m n r st ty)):=by
 have e1:(ρ.up s.nx u s.nx).nn=b:=by rw[h4];exact hu
 have q:=hk.q.AX (g:=g0) hb hb' (.it b (m.den (ρ.up s.nx u)) (n.ev (ρ.up s.nx u)).toNat (r.ev (ρ.up s.nx u)).toNat st ty) rfl (hok (hk.q.ht.none hb'));refine⟨⟨hk.sat.fs,hk.sat.bs,hk.sat.pw,hk.sat.ats,hk.sat.dB,hk.sat.ne,hk.sat.fz,hk.sat.sb⟩,?_⟩
 have:(fN (aC s) (.it s.nx m n r st ty)).den (ρ.up s.nx u)=⟨((aC s).den (ρ.up s.nx u)).L,.it b (m.den (ρ.up s.nx u)) (n.ev (ρ.up s.nx u)).toNat (r.ev (ρ.up s.nx u)).toNat st ty::((aC s).den (ρ.up s.nx u)).os,((aC s).den (ρ.up s.nx u)).eF,((aC s).den (ρ.up s.nx u)).gs⟩:=by
  unfold fN SS.den;simp only[zal,SO.den,e1]
 rw[this];exact q
theorem QM {t:TypeId}{x:Operand}{v:SV}{K:SS->R}(ho:(ae ops i).op=.range t x)(hg:(ae ops i).guard=none)(hd:(ae ops i).dst=some d)(hlt:d<c.nt)(hP:cf.P=c.P)(hΦ:cf.Φ=c.Φ)(h:(Xf cf t v d s K).Ok)(hk:Ok c T G Γ ρ s)(hx:a9 c.nt T x (v.den ρ)):Hv c T G Γ ops i s ρ K:=by
 unfold Xf at h;rw[hP]at h;split at h
 ·rename_i kt et hu;split at h
  ·refine fI.PX hg hd hlt ho hu hx fun b hb hb'=>⟨rfl,rfl,?_⟩;obtain⟨h1,h2,h3,h4⟩:=az h hk (.n b);refine⟨Γ,_,_,h1,h2,zan _,?_⟩;have ok1:=D6 (m:=.bg) (n:=.k 0) (r:=.k 0) (st:=false) (ty:=false) (g0:=.iter none 0 []) hb hb' rfl h3 h4 fun h0=>⟨h0,⟨none,[],rfl,by rw[aA,LE.bk];rfl,by rw[LE.bk,qI],(fun _=>by rw[LE.bk];rfl),(fun h=>by cases h)⟩,fun h=>by cases h⟩;have:=ok1.put (v:=sc (.bZ s.nx 0)) d;rw[show (sc (.bZ s.nx 0)).den (ρ.up s.nx (.n b))=.bZ b 0 by show AV.bZ (ρ.up s.nx (.n b) s.nx).nn 0=_;rw[h4];rfl]at this;exact this
  ·rename_i y;split at h
   ·rename_i cc g n hf;cases hb:(n.lt s.nx&&Nat.blt y s.nx)with
    |false=>rw[hb]at h;cases h
    |true =>
     rw[hb]at h;simp only[cond_true]at h;rw[za]at hb;obtain⟨o1,o2,o3,es,o4,o5,o6,o7⟩:=hk.own (dS hf);refine fI.Cl hg hd hlt ho hu hx o4 fun b hb1 hb'=>⟨rfl,rfl,?_⟩;obtain⟨h1,h2,h3,h4⟩:=az h hk (.n b);have ey:(ρ.up s.nx (.n b) y)=ρ y:=h2 y (ax hb.2);have en:=LE.cg h2 hb.1;have o5:es.length=(n.ev ρ).toNat:=o5;refine⟨Γ,_,_,h1,h2,zan _,?_⟩;have ok1:=D6 (m:=.cV y) (n:=n) (r:=n) (st:=false) (ty:=false) (g0:=.iter (some (ρ y).nn) es.length []) hb1 hb' rfl h3 h4 fun h0=>⟨h0,⟨some (ρ y).nn,[],by show SI (.cV (ρ.up s.nx (.n b) y).nn)=_;rw[ey];rfl,by rw[aA,en,o5],qI _,(fun h=>by cases h),(fun h=>by cases h)⟩,fun h=>by cases h⟩;have:=ok1.put (v:=sc (.bZ s.nx 0)) d;rw[show (sc (.bZ s.nx 0)).den (ρ.up s.nx (.n b))=.bZ b 0 by show AV.bZ (ρ.up s.nx (.n b) s.nx).nn 0=_;rw[h4];rfl]at this;exact this
   ·cases h
  ·rename_i y;split at h
   ·rename_i cc g n hf;cases hb:(n.lt s.nx&&Nat.blt y s.nx)with
    |false=>rw[hb]at h;cases h
    |true =>
     rw[hb]at h;simp only[cond_true]at h;rw[za]at hb;obtain⟨o1,mb,es,q1,q2,o4,o5⟩:=hk.own (gr hf);have q1:(ρ y).vv=.cV mb:=q1;have hx:a9 c.nt T x (ρ y).vv:=hx;rw[q1]at hx;refine fI.Cl hg hd hlt ho hu hx o4 fun b hb1 hb'=>⟨rfl,rfl,?_⟩;obtain⟨h1,h2,h3,h4⟩:=az h hk (.n b);have ey:(ρ.up s.nx (.n b) y)=ρ y:=h2 y (ax hb.2);have en:=LE.cg h2 hb.1;have o5:es.length=(n.ev ρ).toNat:=o5;refine⟨Γ,_,_,h1,h2,zan _,?_⟩;have ok1:=D6 (m:=.ref y) (n:=n) (r:=n) (st:=false) (ty:=false) (g0:=.iter (some mb) es.length []) hb1 hb' rfl h3 h4 fun h0=>⟨h0,⟨some mb,[],by show SI ((ρ.up s.nx (.n b)) y).vv=_;rw[ey,q1];rfl,by rw[aA,en,o5],qI _,(fun h=>by cases h),(fun h=>by cases h)⟩,fun h=>by cases h⟩;have:=ok1.put (v:=sc (.bZ s.nx 0)) d;rw[show (sc (.bZ s.nx 0)).den (ρ.up s.nx (.n b))=.bZ b 0 by show AV.bZ (ρ.up s.nx (.n b) s.nx).nn 0=_;rw[h4];rfl]at this;exact this
   split at h
   ·rename_i cc g hf;cases hb:Nat.blt y s.nx with
    |false=>rw[hb]at h;cases h
    |true =>
     rw[hb]at h;simp only[cond_true]at h;obtain⟨mb,q1,q2⟩:=hk.ty (iP hf);obtain⟨_,es,r1,r2,r3⟩:=hk.q.ht.b _ _ q2;have q1:(ρ y).vv=.cV mb:=q1;have hx:a9 c.nt T x (ρ y).vv:=hx;rw[q1]at hx;refine fI.Cl hg hd hlt ho hu hx r1 fun b hb1 hb'=>⟨rfl,rfl,?_⟩;obtain⟨h1,h2,h3,h4⟩:=az h hk (.n es.length);obtain⟨k1,k2,k3,k4⟩:=az h1 h3 (.n b);have e1:((ρ.up s.nx (.n es.length)).up (aC s).nx (.n b)) s.nx=.n es.length:=by rw[k2 s.nx (zdt _),h4]
     have e2:((ρ.up s.nx (.n es.length)).up (aC s).nx (.n b)) y=ρ y:=by rw[k2 y (Nat.lt_succ_of_lt (ax hb)),h2 y (ax hb)]
     have ev:(LE.a (.n s.nx)).ev ((ρ.up s.nx (.n es.length)).up (aC s).nx (.n b))=es.length:=by rw[LE.aV];show ((((ρ.up s.nx (.n es.length)).up (aC s).nx (.n b)) s.nx).nn:Int)=_;rw[e1];rfl
     refine⟨Γ,_,_,k1,h2.trans k2 (zan _),zay (zan _) (zan _),?_⟩;have hbm:mb≠b:=fun e=>by subst e;rw[hb']at r1;cases r1
     have ok1:=D6 (m:=.ref y) (n:=.a (.n s.nx)) (r:=.a (.n s.nx)) (st:=false) (ty:=true) (g0:=.iter (some mb) es.length []) hb1 hb' rfl k3 k4 fun h0=>⟨h0,⟨some mb,[],by show SI (((ρ.up s.nx (.n es.length)).up (aC s).nx (.n b)) y).vv=_;rw[e2,q1];rfl,by rw[aA,ev];simp,qI _,(fun h=>by cases h),(fun h=>by cases h)⟩,fun _ mb' hmb=>by
      have hmb:(((ρ.up s.nx (.n es.length)).up (aC s).nx (.n b)) y).vv=.cV mb':=hmb;rw[e2,q1]at hmb;cases hmb
      exact⟨cc,ig ρ g,es,q2,by rw[dH hbm];exact r1,by rw[ev];simp⟩⟩
     have:=ok1.put (v:=sc (.bZ (aC s).nx 0)) d;rw[show (sc (.bZ (aC s).nx 0)).den ((ρ.up s.nx (.n es.length)).up (aC s).nx (.n b))=.bZ b 0 by show AV.bZ (((ρ.up s.nx (.n es.length)).up (aC s).nx (.n b)) (aC s).nx).nn 0=_;rw[k4];rfl]at this;exact this
   ·cases h
  ·cases h
 ·cases h
theorem D7 {cc g:Nat}{K:Bool×List SC->Bool×List SC->SS->R}{es:List (AV×AV)}{p:AV×AV}(hΦ:cf.Φ=c.Φ)(h:(K7 cf cc g s K).Ok)(hk:Ok c T G Γ ρ s)(hM:dA c.P c.Φ G Γ cc (ig ρ g) es)(hp:p∈es):fO c T G Γ s ρ fun ρ' s'=>∃k e,(K k e s').Ok/\cj ρ' k=p.1/\cj ρ' e=p.2:=by
 obtain⟨hkeys,hM⟩:=hM;have hkey:=hkeys p hp
 have val:∀{k:Bool×List SC} {s1:SS} {ρ1:bm},dh s.nx ρ ρ1->s.nx<=s1.nx->Ok c T G Γ ρ1 s1->cj ρ1 k=p.1->uE s1.nx k.2=true->(QK cf g (cf.Φ.mv cc) (SU g (cf.Φ.mv cc) k s1) fun v s=>K k v s).Ok->bG s.nx g=true->fO c T G Γ s ρ fun ρ' s'=>∃k e,(K k e s').Ok/\cj ρ' k=p.1/\cj ρ' e=p.2:=by
  intro k s1 ρ1 ha hn ho he hl h hig;rw[hΦ]at h;have hgg:ig ρ1 g=ig ρ g:=bR ha hig
  have ky:(SU g (c.Φ.mv cc) k s1).nx=s1.nx/\Ok c T G Γ ρ1 (SU g (c.Φ.mv cc) k s1):=by
   have lt:∀{d bd:Nat} {e:LE} {s2:SS},Ok c T G Γ ρ1 s2->0<=e.ev ρ1->e.ev ρ1<(((ρ1 d).gg.n bd:Nat):Int)->Ok c T G Γ ρ1 (Wa d bd e s2):=fun h0 h1 h2=>(h0.aF h1).aF (by rw[LE.aE,LE.au,LE.aV];show 0<=(((ρ1 _).gg.n _:Nat):Int)-_+-1;omega);unfold SU;split
   ·rename_i bd kd x e dd hmv hgd;rw[hmv]at hM;have hp1:=hM.1 p hp;rw[<-he,<-hgg,bz hgd ho]at hp1;exact⟨rfl,lt ho hp1.1 hp1.2⟩
   ·rename_i bd kd x a y b dd hmv hgd;rw[hmv]at hM;have hp1:=hM.1 p hp;rw[<-he,<-hgg,bz hgd ho]at hp1;exact⟨rfl,lt (lt ho hp1.1.1 hp1.1.2) hp1.2.1 hp1.2.2⟩
   ·exact⟨rfl,ho⟩
  rw[<-ky.1]at hn hl
  replace ho:=ky.2
  generalize SU g (c.Φ.mv cc) k s1=s1 at h hn hl ho;clear ky;unfold QK at h
  have fin:∀{ρ2:bm} {s2:SS} {e:Bool×List SC},dh s1.nx ρ1 ρ2->s1.nx<=s2.nx->Ok c T G Γ ρ2 s2->(K k e s2).Ok->cj ρ2 e=p.2->fO c T G Γ s ρ fun ρ' s'=>∃k e,(K k e s').Ok/\cj ρ' k=p.1/\cj ρ' e=p.2:=by
   intro ρ2 s2 e a2 n2 o2 h2 d2;exact fO.mk (ha.trans a2 hn) (zay hn n2) o2 ⟨k,e,h2,by rw[qz a2 hl];exact he,d2⟩
  cases hmv:c.Φ.mv cc with
  |kd kd =>
   rw[hmv]at h hM;simp only at h hM;cases hb:(bG s1.nx g&&AM s1.nx (ghost s1.gs g))with
   |false=>rw[hb]at h;cases h
   |true =>
    rw[hb]at h;simp only[cond_true]at h;rw[za]at hb;obtain⟨fs,kv,kf⟩:=hM p hp;obtain⟨ρ2,s2,a2,n2,o2,x,o,g1,g2,_⟩:=pB h hΦ ho hb.1 (J:=0) (fun dv hd=>by have:=hb.2;rw[hd]at this;exact⟨ax this,bz hd ho⟩) ⟨rfl,by rw[LE.bk];exact zby _,by rw[LE.bk];rfl⟩ (by rw[hgg];exact kv) kf;exact fin a2 n2 o2 g1 g2
  |unit =>
   rw[hmv]at h hM;simp only at h hM;exact fin (dh.refl _ _) (zad _) ho h (by rw[hM p hp];rfl)
  |kn bd kd =>
   rw[hmv]at h hM;simp only at h hM;have hM:=hM.2;cases hb:(bG s1.nx g&&AM s1.nx (ghost s1.gs g))with
   |false=>rw[hb]at h;cases h
   |true =>
    rw[hb]at h;simp only[cond_true]at h;rw[za]at hb;obtain⟨fs,kv,kf⟩:=hM p hp;obtain⟨ρ2,s2,a2,n2,o2,x,o,g1,g2,_⟩:=pB h hΦ ho hb.1 (J:=0) (fun dv hd=>by have:=hb.2;rw[hd]at this;exact⟨ax this,bz hd ho⟩) ⟨rfl,by rw[LE.bk];exact zby _,by rw[LE.bk];rfl⟩ (by rw[hgg];exact kv) kf;exact fin a2 n2 o2 g1 g2
  |FM b=>rw[hmv]at h;cases h
  |DD=>rw[hmv]at h;cases h
 unfold K7 at h;cases hig:bG s.nx g with
 |false=>rw[hig]at h;cases h
 |true =>
  rw[hig]at h;simp only[cond_true]at h;unfold TN at h;rw[hΦ]at h;cases hpk:c.Φ.pk cc with
  |kz =>
   rw[hpk]at h hkey;simp only at h;obtain⟨l,n,e0,hl⟩:=hkey;obtain⟨h1,h2,h3,h4⟩:=az h hk (.s l n);refine val (k:=(false,[.str s.nx])) h2 (zan _) h3 ?_ (by simp[uE,SC.lt,aC,dC]) (by rw[hΦ];exact h1) hig;show AV.str (ρ.up s.nx (.s l n) s.nx).sl (ρ.up s.nx (.s l n) s.nx).sm=_;rw[h4,U.oF hl,e0];rfl
  |int =>
   rw[hpk]at h hkey;simp only at h;obtain⟨n,e0⟩:=hkey;obtain⟨h1,h2,h3,h4⟩:=az h hk (.z n);refine val (k:=(false,[.int .i64 (.a (.z s.nx))])) h2 (zan _) h3 ?_ (by simp[uE,SC.lt,LE.lt,LE.a,aC,At.id,dC]) (by rw[hΦ];exact h1) hig;rw[e0];show AV.int .i64 ((LE.a (.z s.nx)).ev _)=_;rw[LE.aV];show AV.int .i64 (ρ.up s.nx (.z n) s.nx).zz=_;rw[h4];rfl
  |str=>rw[hpk]at h;cases h
  |pair=>rw[hpk]at h;cases h
  |fy =>
   rw[hpk]at h hkey;simp only at h;obtain⟨n,m,e0⟩:=hkey;obtain⟨h1,h2,h3,h4⟩:=az h hk (.z n);obtain⟨k1,k2,k3,k4⟩:=az h1 h3 (.z m);refine val (k:=(true,[.int .i64 (.a (.z s.nx)),.int .i64 (.a (.z (s.nx+1)))])) (h2.trans k2 (zan _)) (Nat.le_succ_of_le (zan _)) k3 ?_ (by simp only[uE,zdv,List.all_nil,SC.lt,LE.lt,LE.a,At.id,Bool.and_true,za];exact⟨zbs (by show s.nx+1<=s.nx+1+1;omega),zbs (zad _)⟩) (by rw[hΦ];exact k1) hig;rw[e0];show AV.agg [AV.int .i64 ((LE.a (.z s.nx)).ev _),AV.int .i64 ((LE.a (.z (s.nx+1))).ev _)]=_;rw[LE.aV,LE.aV];show AV.agg [AV.int .i64 (((ρ.up s.nx (.z n)).up (aC s).nx (.z m)) s.nx).zz,AV.int .i64 (((ρ.up s.nx (.z n)).up (aC s).nx (.z m)) (aC s).nx).zz]=_;rw[k4,k2 s.nx (zdt _),h4];rfl
  |yJ=>rw[hpk]at h;cases h
theorem II {b cc g:Nat}{m:SC}{n r:LE}{st ty:Bool}(hf:V9 s m n ty=some (cc,g))(hk:Ok c T G Γ ρ s)(ho:SO.it b m n r st ty∈s.os):∃mb seen es,G (ρ b).nn=some (.iter (some mb) (n.ev ρ).toNat seen)/\G mb=some (.map es)/\es.length=(n.ev ρ).toNat/\left (n.ev ρ).toNat seen=(r.ev ρ).toNat/\(st=true->∃l j,seen=l++[j]/\j<(n.ev ρ).toNat)/\dA c.P c.Φ G Γ cc (ig ρ g) es:=by
 obtain⟨a1,⟨mo,seen,a2,a3,a4,a5,a6⟩,a7⟩:=hk.own ho;unfold V9 at hf;split at hf
 ·rename_i y;split at hf
  ·rename_i cc' g' n' hm;cases hb:(aX s (n.sub n')&&aX s (n'.sub n))with
   |false=>rw[hb]at hf;cases hf
   |true =>
    rw[hb]at hf;cases hf;rw[za]at hb;have e1:=av hb.1 hk.sat;have e2:=av hb.2 hk.sat;rw[LE.au]at e1 e2;obtain⟨o1,o2,o3,es,o4,o5,o6,o7⟩:=hk.own (dS hm);have a2:some (some (ρ y).nn)=some mo:=a2;cases a2;have o5:es.length=(n'.ev ρ).toNat:=o5;exact⟨_,seen,es,a3,o4,by rw[o5];congr 1;omega,a4,a6,o7⟩
  ·cases hf
 ·rename_i y;cases ty with
  |false =>
   have hf:(match Nj s.os y with|some (cc,g,n')=>bif aX s (n.sub n')&&aX s (n'.sub n)then some (cc,g)else none|none=>none)=some (cc,g):=hf;split at hf
   ·rename_i cc' g' n' hm;cases hb:(aX s (n.sub n')&&aX s (n'.sub n))with
    |false=>rw[hb]at hf;cases hf
    |true =>
     rw[hb]at hf;cases hf;rw[za]at hb;have e1:=av hb.1 hk.sat;have e2:=av hb.2 hk.sat;rw[LE.au]at e1 e2;obtain⟨o1,mb,es,q1,q2,o4,o5⟩:=hk.own (gr hm);obtain⟨_,es',r1,r2,r3⟩:=hk.q.ht.b _ _ q2;rw[o4]at r1;cases r1;have q1:(ρ y).vv=.cV mb:=q1;have a2:SI (ρ y).vv=some mo:=a2;rw[q1]at a2;cases a2;have o5:es.length=(n'.ev ρ).toNat:=o5;exact⟨mb,seen,es,a3,o4,by rw[o5];congr 1;omega,a4,a6,r3⟩
   ·cases hf
  |true =>
   have hf:wE s.ty y=some (cc,g):=hf;obtain⟨mb,q1,q2⟩:=hk.ty (iP hf);have q1:(ρ y).vv=.cV mb:=q1;obtain⟨_,es,r1,r2,r3⟩:=hk.q.ht.b _ _ q2;obtain⟨c',g',es',k1,k3,k4⟩:=a7 rfl mb q1;rw[r1]at k3;cases k3;have a2:SI (ρ y).vv=some mo:=a2;rw[q1]at a2;cases a2;exact⟨mb,seen,es,a3,r1,k4,a4,a6,r3⟩
 ·cases hf
theorem QN {x:Operand}{v:SV}{K:SS->R}(ho:(ae ops i).op=.next x false)(hg:(ae ops i).guard=none)(hd:(ae ops i).dst=some d)(hlt:d<c.nt)(hΦ:cf.Φ=c.Φ)(h:(Kl cf v d s K).Ok)(hk:Ok c T G Γ ρ s)(hx:a9 c.nt T x (v.den ρ)):Hv c T G Γ ops i s ρ K:=by
 unfold Kl at h;split at h
 ·rename_i b;have hx:a9 c.nt T x (.bZ (ρ b).nn 0):=hx;split at h
  ·rename_i n r st ty hf;obtain⟨a1,⟨mo,seen,a2,a3,a4,a5,a6⟩,a7⟩:=hk.own (fL hf);cases a2;exact fI.Tp hg hd hlt ho hx a3 ⟨rfl,rfl,Γ,ρ,_,h,dh.refl _ _,zad _,hk.put (v:=.cN [(false,[.bool (.k false)])]) d⟩
  ·rename_i m n r st ty hnm hf;split at h
   ·rename_i cc g hi;cases hbl:Nat.blt b s.nx with
    |false=>rw[hbl]at h;cases h
    |true =>
    rw[hbl]at h;simp only[cond_true]at h;obtain⟨mb,seen,es,q1,q2,q3,q4,q5,q6⟩:=II hi hk (fL hf);obtain⟨h1,h2⟩:=R.eW h;refine fI.next hg hd hlt ho hx q1 q2 q3 (fun hall=>?_) fun j p hj hjn hp=>?_
    ·have h0:(r.ev ρ).toNat=0:=by rw[<-q4];exact F4 hall
     cases hb:aX s (r.aO (-1))with
     |true =>
      have:=av hb hk.sat;rw[LE.aE]at this;omega
     |false =>
      rw[hb]at h1;exact⟨rfl,rfl,Γ,ρ,_,h1,dh.refl _ _,zad _,hk.put (v:=.cN [(false,[.bool (.k false)])]) d⟩
    ·have hp1:=IG hjn hj;rw[q4]at hp1;cases hb:aX s ((LE.k 0).sub r)with
     |true =>
      have:=av hb hk.sat;rw[LE.au,LE.bk]at this;omega
     |false =>
      rw[hb]at h2;simp only[cond_false]at h2;obtain⟨ρ',s',ha,hn,o',k,e,hK,ek,ee⟩:=D7 hΦ h2 hk q6 (zaw hp);split at hK
      ·rename_i b' m2 n2 r2 st2 ty2 osA hr;obtain⟨w1,w2⟩:=eK hr;have hbb:b'=b:=aj w1;subst hbb;cases hb2:aX s' r2 with
       |false=>rw[hb2]at hK;cases hK
       |true =>
       rw[hb2]at hK;simp only[cond_true]at hK;have hr2:=av hb2 o'.sat;obtain⟨a1,⟨mo,seen2,a2,a3,a4,a5,a6⟩,a7⟩:=o'.own (w2.mem_iff.2 (by simp:SO.it b' m2 n2 r2 st2 ty2∈osA++[.it b' m2 n2 r2 st2 ty2]));have eb:ρ' b'=ρ b':=ha b' (ax hbl);have a3:G (ρ' b').nn=some (.iter mo (n2.ev ρ').toNat seen2):=a3;have a1:Γ.m (ρ' b').nn=none:=a1;rw[eb]at a3 a1;rw[q1]at a3;injection a3 with a3;injection a3 with z1 z2 z3;subst z3;have a4:left (n2.ev ρ').toNat seen=(r2.ev ρ').toNat:=a4;rw[<-z2,q4]at a4;have hpd:=dR w2 ρ';rw[zar,zbc]at hpd;have hmb:mb≠(ρ b').nn:=fun e=>by rw[e,q1]at q2;cases q2
       have hQ:=o'.q.vu (b:=(ρ b').nn) (G':=fx G (ρ b').nn (.iter (some mb) (n.ev ρ).toNat (seen++[j]))) (Γ':=Γ) (osA:=osA.map (SO.den ρ')) (o:=SO.den ρ' (.it b' m2 n2 r2 st2 ty2)) (o':=SO.den ρ' (.it b' m2 n2 (r2.aO (-1)) true ty2)) (tys':=[]) hpd (dP (.inl (by rw[q1];rfl))) (fun _ _=>rfl) (fun k h=>dH h) (by rw[aA];rfl)
        (fun _ _ _ h=>by rw[q1]at h;cases h) (fun _ _ _ h=>by rw[q1]at h;cases h) (fun x h=>by rw[a1]at h;cases h) rfl rfl (.inl (by show some _=some _;rw[eb])) (by show some _=some _;rw[eb]) (fun x _ _ h=>by rw[a1]at h;cases h)
        (fun hr' hl'=>by
         show df c.P c.Φ _ Γ (.it (ρ' b').nn _ _ _ _ _);rw[eb];refine⟨a1,⟨some mb,seen++[j],by rw[a2,<-z1],by rw[aA,z2],?_,(fun h=>by cases h),fun _=>⟨seen,j,rfl,by rw[<-z2];exact hjn⟩⟩,fun hty mb' hm=>?_⟩
         ·rw[<-z2,LE.aE];omega
         ·obtain⟨c',g',es',k1,k3,k4⟩:=a7 hty mb' hm;have:mb'≠(ρ b').nn:=fun e=>by rw[e,q1]at k3;cases k3
          exact⟨c',g',es',k1,by rw[dH this];exact k3,k4⟩) (fun f h=>by cases h)
       have ok1:=((Ok.K8 o' hQ).aF (e:=r2.aO (-1)) (by rw[LE.aE];omega)).put (v:=.cN [(false,[.bool (.k true)]),k,e]) d;refine⟨rfl,rfl,Γ,ρ',_,hK,ha,hn,?_⟩
       have ed:(SV.cN [(false,[.bool (.k true)]),k,e]).den ρ'=.cN [.bool true,p.1,p.2]:=by
        show AV.cN [.bool true,cj ρ' k,cj ρ' e]=_;rw[ek,ee]
       rw[ed]at ok1;exact ok1
      ·cases hK
   ·cases h
  ·cases h
 ·cases h
theorem QO {x:Operand}{v:SV}{K:SV->SS->R}(ho:(ae ops i).op=.entry x)(hg:(ae ops i).guard=none)(hΦ:cf.Φ=c.Φ)(h:(QL cf v s K).Ok)(hk:Ok c T G Γ ρ s)(hx:a9 c.nt T x (v.den ρ)):Lo c T G Γ ops i s ρ K:=by
 unfold QL at h;split at h
 ·rename_i b;have hx:a9 c.nt T x (.bZ (ρ b).nn 0):=hx;split at h
  ·rename_i m n r ty hf;split at h
   ·rename_i cc g hi;obtain⟨mb,seen,es,q1,q2,q3,q4,q5,q6⟩:=II hi hk (fL hf);obtain⟨l,j,rfl,hj⟩:=q5 rfl;have hj':j<es.length:=by omega
    have hp:es[j]?=some es[j]:=zaj hj';refine (D7 hΦ h hk q6 (zaw hp)).mono fun ρ' s' _ _ _ ⟨k,e,hK,ek,ee⟩=>⟨_,hK,?_⟩
    have ed:(SV.cN [k,e]).den ρ'=.cN [es[j].1,es[j].2]:=by
     show AV.cN [cj ρ' k,cj ρ' e]=_;rw[ek,ee]
    rw[ed];exact ba.entry hg ho hx q1 q2 q3 hp
   ·cases h
  ·cases h
 ·cases h
end
end Go.Rd
namespace Go.Rd
open Go.aK Go.RowKit Go.Rt
def Xg:IntKind->Option Int
 |.u64=>some 18446744073709551615
 |.u8=>some 255
 |_=>none
def vw (s:SS)(k:IntKind)(e:LE):Bool:=match Xg k with
 |some m=>aX s e&&aX s ((LE.k m).sub e)
 |none=>false
def two (n:Nat):Int:=.ofNat (Nat.pow 2 n)
def IJ (cf:Cf)(pk:KK)(op:BinOp)(t:TypeId)(x y:SV)(s:SS)(K:SV->SS->R):Option R:=bif pP cf.P op t&&(gl cf t pk&&(eC pk x&&eC pk y))then (match op with
 |.eql=>some (fresh s fun x s=>K (sc (.bool (.v x))) s)
 |.neq=>some (fresh s fun x s=>K (sc (.bool (.v x))) s)
 |_=>none)else none
def Xh (cf:Cf)(op:BinOp)(t:TypeId)(x y:SV)(s:SS)(K:SV->SS->R):Option R:=match IJ cf .yJ op t x y s K with
 |some r=>some r
 |none=>IJ cf .fy op t x y s K
def Xi (op:BinOp)(x y:SV)(s:SS)(K:SV->SS->R):Option R:=match x,y with
 |.v false [.int k a],.v false [.int k' b]=>(match op with
  |.and=>bif di k k'&&(di k .u64&&(vw s k b&&b.lt s.nx))then some (fresh s fun x s=>K (sc (.int k (.a (.n x)))) (aF s (b.sub (.a (.n x)))))else none
  |.shr=>(match cX b with
   |some (.ofNat n)=>bif di k .u64&&(Nat.ble n 63&&(vw s k a&&a.lt s.nx))then some (fresh s fun x s=>bif aX s ((LE.k (two (n+8)-1)).sub a)then K (sc (.int k (.a (.n x)))) (aF (aF (aF s (a.sub ((LE.a (.n x)).js (two n)))) ((((LE.a (.n x)).js (two n)).aO (two n-1)).sub a)) ((LE.k 255).sub (.a (.n x))))else K (sc (.int k (.a (.n x)))) (aF (aF s (a.sub ((LE.a (.n x)).js (two n)))) ((((LE.a (.n x)).js (two n)).aO (two n-1)).sub a)))else none
   |_=>none)
  |.shl=>(match cX a,cX b with
   |some (.ofNat p),some (.ofNat n)=>bif di k .u64&&(Nat.ble n 63&&Nat.ble (Nat.mul p (Nat.pow 2 n)) 18446744073709551615)then some (K (sc (.int k (.k (.ofNat (Nat.mul p (Nat.pow 2 n)))))) s)else none
   |_,_=>none)
  |.quo=>(match cX b with
   |some q=>bif di k k'&&(fK k&&(!nD q&&(!mc q&&(aX s a&&(x8 s a&&(a.lt s.nx&&aX s (a.aO (-q))))))))then some (fresh s fun x s=>K (sc (.int k (.a (.n x)))) (aF (aF (aF s (a.sub ((LE.a (.n x)).js q))) ((((LE.a (.n x)).js q).aO (q-1)).sub a)) ((LE.a (.n x)).aO (-1))))else none
   |none=>none)
  |op=>bif di k k'&&(nZ op&&!mn op)then (match WL op a b with
   |some e=>bif vw s k e then some (K (sc (.int k e)) s)else none
   |none=>none)else none)
 |_,_=>none
def Xj (cf:Cf)(o:Op)(op:BinOp)(t:TypeId)(x y:SV)(s:SS)(K:SV->SS->R):R:=match Xi op x y s K with
 |some r=>r
 |none=>(match Xh cf op t x y s K with
  |some r=>r
  |none=>A3 cf o s K)
def MR (cf:Cf)(o:Op)(t t':TypeId)(x:SV)(s:SS)(K:SV->SS->R):R:=match cf.P.underlying t,cf.P.underlying t',x with
 |some (.int ks),some (.int kt),.v false [.int k e]=>bif di k ks&&vw s kt e then K (sc (.int kt e)) s else A3 cf o s K
 |_,_,_=>A3 cf o s K
def wQ (l m:Nat)(i:Nat):Nat:=Nat.mod (Nat.div m (kO (Nat.sub l (Nat.succ i)))) 256
def D8 (l m:Nat):Nat->List (Nat×Nat×Nat)
 |0=>[]
 |i+1=>match D8 l m i with
  |(lo,hi,ch)::r=>bif Nat.beq (wQ l m i) ch then (lo,i,ch)::r else (i,i,wQ l m i)::(lo,hi,ch)::r
  | []=>[(i,i,wQ l m i)]
def K9 (l m:Nat)(rs:List (Nat×Nat×Nat))(i:Nat):Bool:=rs.any fun r=>Nat.ble r.1 i&&(Nat.ble i r.2.1&&Nat.beq r.2.2 (wQ l m i))
def IK (f:Nat->Bool):Nat->Bool
 |0=>true
 |n+1=>f n&&IK f n
theorem D9 {f:Nat->Bool}:∀{n i:Nat},IK f n=true->i<n->f i=true
 |0,i,_,h=>absurd h (by omega)
 |n+1,i,h,hi=>by
  have h:(f n&&IK f n)=true:=h;rw[za]at h;by_cases e:i=n
  ·subst e;exact h.1
  ·exact D9 h.2 (by omega)
def runK (e:LE)(s:SS)(K:SV->SS->R):List (Nat×Nat×Nat)->R
 | []=>.ok
 |r::rs=>(bif aX s ((LE.k (.ofNat r.1)).sub (e.aO 1))||aX s (e.aO (-(.ofNat r.2.1)-1))then .ok else K (sc (.int .u8 (.k (.ofNat r.2.2)))) (aF (aF s (e.aO (-(.ofNat r.1)))) ((LE.k (.ofNat r.2.1)).sub e))).and (runK e s K rs)
def Xk (cf:Cf)(o:Op)(t:TypeId)(x y:SV)(s:SS)(K:SV->SS->R):R:=match cf.P.underlying t,x,y with
 |some .string,.v false [.my l m],.v false [.int kd e]=>bif aX s e&&(aX s (((LE.k (.ofNat l)).sub e).aO (-1))&&IK (K9 l m (D8 l m l)) l)then runK e s K (D8 l m l)else .bad 260 s
 |_,_,_=>A3 cf o s K
section
variable {c:Cx}{T:Tm}{G:GH}{Γ:dI}{ρ ρ':bm}{s s':SS}{cf:Cf}{ops:Array Oper}{i d:Nat}
theorem nH (n:Int):IntKind.u64.wrap n=n%18446744073709551616:=by
 simp[IntKind.wrap,IntKind.bits,IntKind.signed]
theorem wrap_u8 (n:Int):IntKind.u8.wrap n=n%256:=by
 simp[IntKind.wrap,IntKind.bits,IntKind.signed]
theorem tr {k:IntKind}{e:LE}(h:vw s k e=true)(hs:Sat ρ s):k.wrap (e.ev ρ)=e.ev ρ/\0<=e.ev ρ:=by
 unfold vw at h;cases k<;>first|(cases h;done)|skip
 all_goals
  have h:=(za _ _).mp h;have h1:=av h.1 hs;have h2:=av h.2 hs;rw[LE.au,LE.bk]at h2
 ·refine⟨?_,h1⟩;rw[wrap_u8];omega
 ·refine⟨?_,h1⟩;rw[nH];omega
theorem Ea (ρ:bm)(k:IntKind)(x n:Nat)(h:ρ x=.n n):(sc (.int k (.a (.n x)))).den ρ=.int k (n:Int):=by
 show AV.int k ((LE.a (.n x)).ev ρ)=_;rw[LE.aV];show AV.int k ((ρ x).nn:Int)=_;rw[h];rfl
theorem ba.Xl {P:Program}{n0 nt:Nat}{hp:Tr AO}{nx:Pz}(hg:(ae ops i).guard=none){t yt:TypeId}{x y:Operand}{a b:Int}(ho:(ae ops i).op=.binOp .and t x y yt)(hb:0<=b/\b<=18446744073709551615)(hx:a9 nt T x (.int .u64 a))(hy:a9 nt T y (.int .u64 b)):∃r:Nat,(r:Int)<=b/\ba P ops n0 nt i T hp nx G (.int .u64 r):=by
 obtain⟨q,rfl⟩:=Int.eq_ofNat_of_zero_le hb.1;have hq:q<2 ^ 64:=by have:=hb.2;omega
 refine⟨(BitVec.ofInt 64 a &&& BitVec.ofNat 64 q).toNat,?_,bQ hg fun B w0 ι a' w hs=>?_⟩
 ·have:(BitVec.ofInt 64 a &&& BitVec.ofNat 64 q).toNat<=q:=by
    rw[BitVec.toNat_and,BitVec.toNat_ofNat,zdu hq];exact Nat.and_le_right
  omega
 ·simp only[execOp,ho];rw[a9.at hx hs,a9.at hy hs];have e:(eqGuard .and t x y (ak ι (.int .u64 a)) (ak ι (.int .u64 (q:Int)))).run P w=.ok () w:=by simp[eqGuard]
  simp only[Sem.run_bind,e,Result.andThen_ok];simp only[ak,binOp,Op.intBits,Sem.run_pure]
  have hw:IntKind.u64.wrap ((BitVec.ofInt 64 a &&& BitVec.ofNat 64 q).toNat:Int)=((BitVec.ofInt 64 a &&& BitVec.ofNat 64 q).toNat:Int):=by
   rw[nH];have:=(BitVec.ofInt 64 a &&& BitVec.ofNat 64 q).isLt;omega
  have e2:BitVec.ofInt IntKind.u64.bits (q:Int)=BitVec.ofNat 64 q:=by
   show BitVec.ofInt 64 (q:Int)=_;rw[BitVec.ofInt_natCast]
  rw[e2];show Result.ok (Next.value (.int .u64 (IntKind.u64.wrap ((BitVec.ofInt 64 a &&& BitVec.ofNat 64 q).toNat:Int)))) w=_;rw[hw]
theorem ba.Xm {P:Program}{n0 nt:Nat}{hp:Tr AO}{nx:Pz}(hg:(ae ops i).guard=none){t yt:TypeId}{x y:Operand}{k':IntKind}{a:Int}{n:Nat}(ho:(ae ops i).op=.binOp .shr t x y yt)(hn:n<=63)(ha:0<=a/\a<=18446744073709551615)(hx:a9 nt T x (.int .u64 a))(hy:a9 nt T y (.int k' (.ofNat n))):ba P ops n0 nt i T hp nx G (.int .u64 (a/2 ^ n)):=by
 refine bQ hg fun B w0 ι a' w hs=>?_;simp only[execOp,ho];rw[a9.at hx hs,a9.at hy hs];have e:(eqGuard .shr t x y (ak ι (.int .u64 a)) (ak ι (.int k' (.ofNat n)))).run P w=.ok () w:=by simp[eqGuard]
 have hm:min n IntKind.u64.bits=n:=zch (by show n<=64;omega);have hneg:¬((n:Int)<0):=by omega
 simp only[Sem.run_bind,e,Result.andThen_ok];simp only[ak,binOp,Op.shift,zbk,hneg,if_false,zcv,hm,Sem.run_pure];rw[Int.fdiv_eq_ediv_of_nonneg _ (Int.le_of_lt (Int.pow_pos (by decide)))];simp
theorem ba.Xn {P:Program}{n0 nt:Nat}{hp:Tr AO}{nx:Pz}(hg:(ae ops i).guard=none){t yt:TypeId}{x y:Operand}{k':IntKind}{p n:Nat}(ho:(ae ops i).op=.binOp .shl t x y yt)(hn:n<=63)(hf:p*2 ^ n<=18446744073709551615)(hx:a9 nt T x (.int .u64 (.ofNat p)))(hy:a9 nt T y (.int k' (.ofNat n))):ba P ops n0 nt i T hp nx G (.int .u64 (.ofNat (p*2 ^ n))):=by
 refine bQ hg fun B w0 ι a' w hs=>?_;simp only[execOp,ho];rw[a9.at hx hs,a9.at hy hs];have e:(eqGuard .shl t x y (ak ι (.int .u64 (.ofNat p))) (ak ι (.int k' (.ofNat n)))).run P w=.ok () w:=by simp[eqGuard]
 have hm:min n IntKind.u64.bits=n:=zch (by show n<=64;omega);have hneg:¬((n:Int)<0):=by omega
 have hw:IntKind.u64.wrap ((p:Int)*2 ^ n)=((p*2 ^ n:Nat):Int):=by
  rw[nH];have:((p:Int)*2 ^ n)=((p*2 ^ n:Nat):Int):=by simp
  rw[this];omega
 simp only[Sem.run_bind,e,Result.andThen_ok];simp only[ak,binOp,Op.shift,zbk,hneg,if_false,zcv,hm,Sem.run_pure,hw];simp
theorem jR {k k':IntKind}(h:di k k'=true):k=k':=of_decide_eq_true h
theorem QP {op:BinOp}{t yt:TypeId}{ox oy:Operand}{x y:SV}{K:SV->SS->R}{r:R}(ho:(ae ops i).op=.binOp op t ox oy yt)(hg:(ae ops i).guard=none)(hr:Xi op x y s K=some r)(h:r.Ok)(hk:Ok c T G Γ ρ s)(hx:a9 c.nt T ox (x.den ρ))(hy:a9 c.nt T oy (y.den ρ)):Lo c T G Γ ops i s ρ K:=by
 unfold Xi at hr;split at hr
 ·rename_i k a k' b;have hx:a9 c.nt T ox (.int k (a.ev ρ)):=hx;have hy:a9 c.nt T oy (.int k' (b.ev ρ)):=hy;split at hr
  ·cases hb:(di k k'&&(di k .u64&&(vw s k b&&b.lt s.nx)))with
   |false=>rw[hb]at hr;cases hr
   |true =>
    rw[hb]at hr;cases hr;simp only[za]at hb;have e1:=jR hb.1;have e2:=jR hb.2.1;subst e1 e2;obtain⟨f1,f2⟩:=tr hb.2.2.1 hk.sat;have f3:b.ev ρ<=18446744073709551615:=by rw[nH]at f1;omega
    obtain⟨r,r1,r2⟩:=ba.Xl (P:=c.P) (n0:=c.n0) (hp:=.e) (nx:=z 0) (G:=G) hg ho ⟨f2,f3⟩ hx hy;obtain⟨h1,h2,h3,h4⟩:=az h hk (.n r);refine fO.mk h2 (zan _) (h3.aF ?_) ⟨_,h1,?_⟩
    ·rw[LE.au,LE.cg h2 hb.2.2.2,LE.aV];show 0<=b.ev ρ-((ρ.up s.nx (.n r) s.nx).nn:Int);rw[h4];show 0<=b.ev ρ-(r:Int);omega
    ·rw[Ea _ _ _ r h4];exact r2
  ·split at hr
   ·rename_i n hc;cases hb:(di k .u64&&(Nat.ble n 63&&(vw s k a&&a.lt s.nx)))with
    |false=>rw[hb]at hr;cases hr
    |true =>
     rw[hb]at hr;cases hr;simp only[za]at hb;have e2:=jR hb.1;subst e2;have hn:=aN hb.2.1;obtain⟨f1,f2⟩:=tr hb.2.2.1 hk.sat;have f3:a.ev ρ<=18446744073709551615:=by rw[nH]at f1;omega
     rw[dO hc ρ]at hy;have hl:=ba.Xm (P:=c.P) (n0:=c.n0) (hp:=.e) (nx:=z 0) (G:=G) hg ho hn ⟨f2,f3⟩ hx hy;have hpos:(0:Int)<2 ^ n:=Int.pow_pos (by decide);obtain⟨q,hq⟩:=Int.eq_ofNat_of_zero_le (Int.ediv_nonneg f2 (Int.le_of_lt hpos));obtain⟨h1,h2,h3,h4⟩:=az h hk (.n q);have ea:=LE.cg h2 hb.2.2.2;have ex:(LE.a (.n s.nx)).ev (ρ.up s.nx (.n q))=q:=by rw[LE.aV];show ((ρ.up s.nx (.n q) s.nx).nn:Int)=_;rw[h4];rfl
     have e2:two n=2 ^ n:=by show ((2 ^ n:Nat):Int)=_;simp
     have d1:=zel (a.ev ρ) (2 ^ n);have d2:=Int.emod_nonneg (a.ev ρ) (Int.ne_of_gt hpos);have d3:=Int.emod_lt_of_pos (a.ev ρ) hpos;rw[hq]at d1;have k1:Ok c T G Γ (ρ.up s.nx (.n q)) (aF (aF (aC s) (a.sub ((LE.a (.n s.nx)).js (two n)))) ((((LE.a (.n s.nx)).js (two n)).aO (two n-1)).sub a)):=(h3.aF (by rw[LE.au,LE.fJ,ea,ex,e2];omega)).aF (by rw[LE.au,LE.aE,LE.fJ,ea,ex,e2];omega);cases QL:aX (aC s) ((LE.k (two (n+8)-1)).sub a)with
     |true =>
      rw[QL]at h1;have h5:=av QL h3.sat;rw[LE.au,LE.bk,ea]at h5;have e3:two (n+8)=256*2 ^ n:=by show ((2 ^ (n+8):Nat):Int)=_;rw[Nat.pow_add];simp[Int.mul_comm]
      rw[e3]at h5;have h6:a.ev ρ/2 ^ n<256:=Int.ediv_lt_of_lt_mul hpos (by omega);rw[hq]at h6;refine fO.mk h2 (zan _) (k1.aF (e:=(LE.k 255).sub (.a (.n s.nx))) ?_) ⟨_,h1,?_⟩
      ·rw[LE.au,LE.bk,ex];omega
      ·rw[Ea _ _ _ q h4,<-hq];exact hl
     |false =>
      rw[QL]at h1;refine fO.mk h2 (zan _) k1 ⟨_,h1,?_⟩;rw[Ea _ _ _ q h4,<-hq];exact hl
   ·cases hr
  ·split at hr
   ·rename_i p n hc1 hc2;cases hb:(di k .u64&&(Nat.ble n 63&&Nat.ble (Nat.mul p (Nat.pow 2 n)) 18446744073709551615))with
    |false=>rw[hb]at hr;cases hr
    |true =>
     rw[hb]at hr;cases hr;simp only[za]at hb;have e2:=jR hb.1;subst e2;rw[dO hc1 ρ]at hx;rw[dO hc2 ρ]at hy;refine Lo.here hk h ?_;show ba _ _ _ _ _ _ _ _ _ (.int .u64 ((LE.k _).ev ρ));rw[LE.bk];exact ba.Xn hg ho (aN hb.2.1) (aN hb.2.2) hx hy
   ·cases hr
  ·split at hr
   ·rename_i q hc;cases hb:(di k k'&&(fK k&&(!nD q&&(!mc q&&(aX s a&&(x8 s a&&(a.lt s.nx&&aX s (a.aO (-q)))))))))with
    |false=>rw[hb]at hr;cases hr
    |true =>
     rw[hb]at hr;cases hr;simp only[za,zam]at hb;obtain⟨hb0,hb1,hb2,hbz,hb3,hb4,hb5,hb6⟩:=hb;have e1:=jR hb0;subst e1;have:=eu hb1;subst this;have hq:=xV hbz;rw[dO hc ρ]at hy;obtain⟨r,hr1,_,hl⟩:=ba.Tw hg ho (.inl rfl) hq hx hy (P:=c.P) (n0:=c.n0) (hp:=.e) (nx:=z 0) (G:=G);have hr1:=hr1 rfl;have hqp:=ri hb2;have pD:=av hb3 hk.sat;have hge:=av hb6 hk.sat;rw[LE.aE]at hge;have hpos:0<q:=by omega
     have hd1:(a.ev ρ).tdiv q=a.ev ρ/q:=Int.tdiv_eq_ediv_of_nonneg pD;have hd0:0<=a.ev ρ/q:=Int.ediv_nonneg pD hqp;have hd2:a.ev ρ/q<=a.ev ρ:=Int.ediv_le_self _ pD;have hd3:1<=a.ev ρ/q:=Int.le_ediv_of_mul_le hpos (by omega);have hfa:=x9 hb4 hk.sat
     have hfit:IntKind.i64.wrap (a.ev ρ/q)=a.ev ρ/q:=by
      rw[IntKind.wrap_i64]at hfa ⊢;omega
     rw[hr1,hd1,hfit]at hl;obtain⟨h1,h2,h3,h4⟩:=az h hk (.n (a.ev ρ/q).toNat)
     have hx1:(LE.a (.n s.nx)).ev (ρ.up s.nx (.n (a.ev ρ/q).toNat))=a.ev ρ/q:=by
      rw[LE.aV];show ((ρ.up s.nx (.n (a.ev ρ/q).toNat) s.nx).nn:Int)=_;rw[h4];show (((a.ev ρ/q).toNat:Nat):Int)=_;omega
     have hae:=LE.cg h2 hb5;have e1:=zel (a.ev ρ) q;have e2:=Int.emod_nonneg (a.ev ρ) hq;have e3:=Int.emod_lt_of_pos (a.ev ρ) hpos;refine fO.mk h2 (zan _) (((h3.aF ?_).aF ?_).aF ?_) ⟨_,h1,?_⟩
     ·rw[LE.au,LE.fJ,hae,hx1];omega
     ·rw[LE.au,LE.aE,LE.fJ,hae,hx1];omega
     ·rw[LE.aE,hx1];omega
     ·rw[Ea _ _ _ _ h4];have:(((a.ev ρ/q).toNat:Nat):Int)=a.ev ρ/q:=by omega
      rw[this];exact hl
   ·cases hr
  ·cases hb:(di k k'&&(nZ op&&!mn op))with
   |false=>rw[hb]at hr;cases hr
   |true =>
    rw[hb]at hr;simp only[cond_true]at hr;simp only[za]at hb;have e1:=jR hb.1;subst e1;split at hr
    ·rename_i e he;cases hb2:vw s k e with
     |false=>rw[hb2]at hr;cases hr
     |true =>
      rw[hb2]at hr;cases hr;obtain⟨f1,f2⟩:=tr hb2 hk.sat;refine Lo.here hk h ?_;show ba _ _ _ _ _ _ _ _ _ (.int k (e.ev ρ));rw[<-f1,H9 he ρ];exact ba.ZI hg ho hb.2.1 hx hy
    ·cases hr
 ·cases hr
theorem ba.Xo {P:Program}{n0 nt:Nat}{hp:Tr AO}{nx:Pz}(hg:(ae ops i).guard=none){t yt:TypeId}{x y:Operand}{a b:List AV}{r:Bool}{op:BinOp}(ho:(ae ops i).op=.binOp op t x y yt)(cR:op=.eql∨op=.neq)(hgt:pP P op t=true)(he:vk P 9 t (.agg a) (.agg b) r)(hx:a9 nt T x (.agg a))(hy:a9 nt T y (.agg b)):∃q,ba P ops n0 nt i T hp nx G (.bool q):=by
 have side:∀ι,binOp .eql t (ak ι (.agg a)) (ak ι (.agg b))=(do pure (.bool (<-Op.equal t (ak ι (.agg a)) (ak ι (.agg b)))))/\binOp .neq t (ak ι (.agg a)) (ak ι (.agg b))=(do pure (.bool (!(<-Op.equal t (ak ι (.agg a)) (ak ι (.agg b)))))):=fun ι =>
  qf (P:=P) (fun _ _ _ _ h=>by simp[ak]at h) (fun _ _ _ _ h=>by simp[ak]at h) (fun _ _ _ _ _ _ h=>by simp[ak]at h) (fun _ _ h=>by simp[ak]at h)
 have hge:P.eqGuardType P.depth t=false:=by
  rcases cR with rfl|rfl
  ·simpa [pP,isEq] using hgt
  ·simpa [pP,isEq] using hgt
 rcases cR with rfl|rfl
 ·refine⟨r,bQ hg fun B w0 ι a' w hs=>?_⟩;simp only[execOp,ho];rw[a9.at hx hs,a9.at hy hs];have e:(eqGuard .eql t x y (ak ι (.agg a)) (ak ι (.agg b))).run P w=.ok () w:=by simp[eqGuard,ak,hge]
  simp only[Sem.run_bind,e,Result.andThen_ok];rw[(side ι).1];have hq:=iO he ι w;simp only[ak]at hq;simp only[Sem.run_bind,Sem.run_pure,ak,hq,Result.andThen_ok]
 ·refine⟨!r,bQ hg fun B w0 ι a' w hs=>?_⟩;simp only[execOp,ho];rw[a9.at hx hs,a9.at hy hs];have e:(eqGuard .neq t x y (ak ι (.agg a)) (ak ι (.agg b))).run P w=.ok () w:=by simp[eqGuard,ak,hge]
  simp only[Sem.run_bind,e,Result.andThen_ok];rw[(side ι).2];have hq:=iO he ι w;simp only[ak]at hq;simp only[Sem.run_bind,Sem.run_pure,ak,hq,Result.andThen_ok]
theorem Eb {pk:KK}(hpk:pk=.yJ∨pk=.fy){op:BinOp}{t yt:TypeId}{ox oy:Operand}{x y:SV}{K:SV->SS->R}{r:R}(ho:(ae ops i).op=.binOp op t ox oy yt)(hg:(ae ops i).guard=none)(hP:cf.P=c.P)(hK:dJ cf)(hr:IJ cf pk op t x y s K=some r)(h:r.Ok)(hk:Ok c T G Γ ρ s)(hx:a9 c.nt T ox (x.den ρ))(hy:a9 c.nt T oy (y.den ρ)):Lo c T G Γ ops i s ρ K:=by
 unfold IJ at hr;cases hb:(pP cf.P op t&&(gl cf t pk&&(eC pk x&&eC pk y)))with
 |false=>rw[hb]at hr;cases hr
 |true =>
  rw[hb]at hr;simp only[cond_true]at hr;simp only[za]at hb;obtain⟨hq,hb⟩:=hb;rw[hP]at hq;have hM:=gm hb.1 hK;rw[hP]at hM
  have ag:∀{v:AV},de pk v->∃cs,v=.agg cs:=fun h=>by
   rcases hpk with rfl|rfl
   ·obtain⟨l,n,z,p,e⟩:=h;exact⟨_,e⟩
   ·obtain⟨n,m,e⟩:=h;exact⟨_,e⟩
  have k1:=ew hb.2.1 ρ;have k2:=ew hb.2.2 ρ;obtain⟨a1,e1⟩:=ag k1;obtain⟨a2,e2⟩:=ag k2;rw[e1]at hx k1;rw[e2]at hy k2;have he:=hM.eq _ _ k1 k2
  have fin:(op=.eql∨op=.neq)->(fresh s fun x s=>K (sc (.bool (.v x))) s).Ok->Lo c T G Γ ops i s ρ K:=fun cR h=>by
   obtain⟨q,hq⟩:=ba.Xo (n0:=c.n0) (hp:=.e) (nx:=aK.z 0) (G:=G) hg ho cR hq he hx hy;obtain⟨h1,h2,h3,h4⟩:=az h hk (.b q);refine Lo.fr h3 h1 ?_;show ba _ _ _ _ _ _ _ _ _ (.bool (ρ.up s.nx (.b q) s.nx).bb);rw[h4];exact hq
  split at hr
  ·cases hr;exact fin (.inl rfl) h
  ·cases hr;exact fin (.inr rfl) h
  ·cases hr
theorem QQ {op:BinOp}{t yt:TypeId}{ox oy:Operand}{x y:SV}{K:SV->SS->R}{r:R}(ho:(ae ops i).op=.binOp op t ox oy yt)(hg:(ae ops i).guard=none)(hP:cf.P=c.P)(hK:dJ cf)(hr:Xh cf op t x y s K=some r)(h:r.Ok)(hk:Ok c T G Γ ρ s)(hx:a9 c.nt T ox (x.den ρ))(hy:a9 c.nt T oy (y.den ρ)):Lo c T G Γ ops i s ρ K:=by
 unfold Xh at hr;cases h1:IJ cf .yJ op t x y s K with
 |some r1=>rw[h1]at hr;cases hr;exact Eb (.inl rfl) ho hg hP hK h1 h hk hx hy
 |none=>rw[h1]at hr;exact Eb (.inr rfl) ho hg hP hK hr h hk hx hy
theorem QR {op:BinOp}{t yt:TypeId}{ox oy:Operand}{x y:SV}{K:SV->SS->R}(ho:(ae ops i).op=.binOp op t ox oy yt)(hg:(ae ops i).guard=none)(hP:cf.P=c.P)(hΦ:cf.Φ=c.Φ)(hK:dJ cf)(h:(Xj cf (ae ops i).op op t x y s K).Ok)(hk:Ok c T G Γ ρ s)(hx:a9 c.nt T ox (x.den ρ))(hy:a9 c.nt T oy (y.den ρ)):Lo c T G Γ ops i s ρ K:=by
 unfold Xj at h;split at h
 ·rename_i r hr;exact QP ho hg hr h hk hx hy
 ·split at h
  ·rename_i r hr;exact QQ ho hg hP hK hr h hk hx hy
  ·exact oc hg hP hΦ hK h hk
theorem QS {t t':TypeId}{ox:Operand}{x:SV}{K:SV->SS->R}(ho:(ae ops i).op=.convert t t' ox)(hg:(ae ops i).guard=none)(hP:cf.P=c.P)(hΦ:cf.Φ=c.Φ)(hK:dJ cf)(h:(MR cf (ae ops i).op t t' x s K).Ok)(hk:Ok c T G Γ ρ s)(hx:a9 c.nt T ox (x.den ρ)):Lo c T G Γ ops i s ρ K:=by
 unfold MR at h;split at h
 ·rename_i ks kt k e hu hu';cases hb:(di k ks&&vw s kt e)with
  |false=>rw[hb]at h;exact oc hg hP hΦ hK h hk
  |true =>
   rw[hb]at h;rw[za]at hb;have e1:=jR hb.1;subst e1;obtain⟨f1,f2⟩:=tr hb.2 hk.sat;rw[hP]at hu hu';refine Lo.here hk h ?_;show ba _ _ _ _ _ _ _ _ _ (.int kt (e.ev ρ));rw[<-f1];exact ba.M5 hg ho hu hu' hx
 ·exact oc hg hP hΦ hK h hk
theorem Ec {e:LE}{K:SV->SS->R}{l m:Nat}(hk:Ok c T G Γ ρ s)(he:0<=e.ev ρ)(hl:ba c.P ops c.n0 c.nt i T .e (z 0) G (.int .u8 (.ofNat (wQ l m (e.ev ρ).toNat)))):∀{rs:List (Nat×Nat×Nat)},K9 l m rs (e.ev ρ).toNat=true->(runK e s K rs).Ok->Lo c T G Γ ops i s ρ K
 | [],h,_=>by cases h
 |r::rs,h,hK=>by
  obtain⟨h1,h2⟩:=R.eW (show ((bif aX s ((LE.k (.ofNat r.1)).sub (e.aO 1))||aX s (e.aO (-(.ofNat r.2.1)-1))then R.ok else K (sc (.int .u8 (.k (.ofNat r.2.2)))) (aF (aF s (e.aO (-(.ofNat r.1)))) ((LE.k (.ofNat r.2.1)).sub e))).and (runK e s K rs)).Ok from hK);have h:((Nat.ble r.1 (e.ev ρ).toNat&&(Nat.ble (e.ev ρ).toNat r.2.1&&Nat.beq r.2.2 (wQ l m (e.ev ρ).toNat)))||K9 l m rs (e.ev ρ).toNat)=true:=h;rw[zaq]at h;rcases h with h|h
  ·simp only[za]at h;have b1:=aN h.1;have b2:=aN h.2.1;have b3:=aj h.2.2;cases hb:(aX s ((LE.k (.ofNat r.1)).sub (e.aO 1))||aX s (e.aO (-(.ofNat r.2.1)-1)))with
   |true =>
    rw[zaq]at hb;rcases hb with hb|hb
    ·have:=av hb hk.sat;rw[LE.au,LE.bk,LE.aE]at this;simp only[zbk]at this;omega
    ·have:=av hb hk.sat;rw[LE.aE]at this;simp only[zbk]at this;omega
   |false =>
    rw[hb]at h1;simp only[cond_false]at h1;refine⟨ρ,aF (aF s (e.aO (-(.ofNat r.1)))) ((LE.k (.ofNat r.2.1)).sub e),dh.refl _ _,zad _,(hk.aF ?_).aF ?_,_,h1,?_⟩
    ·rw[LE.aE];simp only[zbk];omega
    ·rw[LE.au,LE.bk];simp only[zbk];omega
    ·show ba _ _ _ _ _ _ _ _ _ (.int .u8 ((LE.k _).ev ρ));rw[LE.bk,b3];exact hl
  ·exact Ec hk he hl h h2
theorem QT {t:TypeId}{ox oy:Operand}{x y:SV}{K:SV->SS->R}(ho:(ae ops i).op=.index t ox oy)(hg:(ae ops i).guard=none)(hP:cf.P=c.P)(hΦ:cf.Φ=c.Φ)(hK:dJ cf)(h:(Xk cf (ae ops i).op t x y s K).Ok)(hk:Ok c T G Γ ρ s)(hx:a9 c.nt T ox (x.den ρ))(hy:a9 c.nt T oy (y.den ρ)):Lo c T G Γ ops i s ρ K:=by
 unfold Xk at h;split at h
 ·rename_i l m kd e hu;rw[hP]at hu;cases hb:(aX s e&&(aX s (((LE.k (.ofNat l)).sub e).aO (-1))&&IK (K9 l m (D8 l m l)) l))with
  |false=>rw[hb]at h;cases h
  |true =>
   rw[hb]at h;simp only[za]at hb;have k1:=av hb.1 hk.sat;have k2:=av hb.2.1 hk.sat;rw[LE.aE,LE.au,LE.bk]at k2;simp only[zbk]at k2;have hlt:(e.ev ρ).toNat<l:=by omega
   have hy:a9 c.nt T oy (.int kd (.ofNat (e.ev ρ).toNat)):=by
    have:(SV.v false [.int kd e]).den ρ=.int kd (.ofNat (e.ev ρ).toNat):=by show AV.int kd (e.ev ρ)=_;congr 1;exact (zbm k1).symm
    rw[<-this];exact hy
   exact Ec hk k1 (ba.HL hg ho hu hx hy hlt) (D9 hb.2.2 hlt) h
 ·exact oc hg hP hΦ hK h hk
end
end Go.Rd
namespace Go.Rd
open Go.aK Go.RowKit Go.Rt
def Ac (c:Cx)(T:Tm)(G:GH)(Γ:dI)(s:SS)(ρ:bm)(K:SS->R):Prop :=
 ∃G' Γ' ρ' s',sD G G'/\(K s').Ok/\dh s.nx ρ ρ'/\s.nx<=s'.nx/\Ok c T G' Γ' ρ' s'
def sF (s:SS)(d d':Nat):List (Nat×SC×LE):=(s.ats.filter fun p=>Nat.beq p.1 d).map fun p=>(d',p.2.1,p.2.2)
def Xp:List (Nat×LE)->Nat->Option LE
 | [],_=>none
 |p::l,k=>bif Nat.beq p.1 k then some p.2 else Xp l k
def F5 (s:SS)(dv:Nat):List (Nat×LE)->SS
 | []=>s
 |p::l=>n9 (F5 s dv l) (.a (.gn dv p.1)) p.2
def F6 (s:SS)(ns:List (Nat×LE)):Bool:=ns.all fun p=>aX s p.2&&p.2.lt s.nx
def Wb (ρ:bm)(ns:List (Nat×LE))(k:Nat):Nat:=match Xp ns k with|some e=>(e.ev ρ).toNat|none=>0
def Nl:List (Nat×LE)->Bool
 | []=>true
 |p::l=>(l.all fun q=>!Nat.beq q.1 p.1)&&Nl l
def Ed (s:SS)(p:Nat×Nat×Bool)(sb:Nat×Nat):SS:=⟨s.nx,s.L,s.os,s.ty,p::s.gs,s.fs,s.bs,s.pw,s.ats,s.dB,s.ne,s.fz,sb::s.sb⟩
def IL (ns:List (Nat×LE))(sub:Nat)(s:SS)(K:SS->R):R:=bif F6 s ns&&(Nl ns&&bG s.nx sub)then
    fresh s fun y s=>fresh s fun dv s=>K (F5 (Ed s (y+1,dv,true) (dv,sub)) dv ns)
 else .bad 230 s
def CQ (ns:List (Nat×LE))(sub b k:Nat)(s:SS)(K:SS->R):R:=bif F6 s ns&&(Nl ns&&(bG s.nx sub&&Nat.blt b s.nx))then
    (match mD (fun o=>match o with|.em y pk=>Nat.beq y b&&KL pk .str|_=>false) s.os with
     |some (_,osA)=>bif osA.all (SO.lt s.nx)then fresh s fun y s=>fresh s fun dv s=>K (F5 (Ed (c6 s (osA++[.am b (y+1) k])) (y+1,dv,true) (dv,sub)) dv ns)else .bad 231 s
     |none=>.bad 232 s)
 else .bad 233 s
def CR (g k:Nat)(e:LE)(s:SS)(K:SS->R):R:=match kI s.gs g with
 |some d=>bif aX s (e.sub (.a (.gn d k)))&&(e.lt s.nx&&(Nat.blt d s.nx&&bG s.nx g))then
  fresh s fun d' s'=>K (n9 (F3 (sW s' g d' true s.os (sF s d d') [] [] (ou s.sb d d')) d d' ([0,1,2,3,4,5].filter fun j=>!Nat.beq j k)) (.a (.gn d' k)) e)
  else .bad 234 s
 |none=>.bad 235 s
def IM (g:Nat)(s:SS)(K:SS->R):R:=match kI s.gs g with
 |some d=>bif Nat.blt d s.nx&&bG s.nx g then
  fresh s fun d' s'=>K (F3 (sW s' g d' false s.os (sF s d d') [] [d'] (ou s.sb d d')) d d' [0,1,2,3,4,5])
  else .bad 236 s
 |none=>.bad 237 s
section
variable {c:Cx}{T:Tm}{G:GH}{Γ:dI}{ρ ρ':bm}{s s':SS}{cf:Cf}{ops:Array Oper}{i d:Nat}
theorem yz {dv:Nat}:∀{ns:List (Nat×LE)},Ok c T G Γ ρ s->(∀p∈ns,(((ρ dv).gg.n p.1:Nat):Int)=p.2.ev ρ)->Ok c T G Γ ρ (F5 s dv ns)
 | [],h,_=>h
 |p::l,h,hn=>(yz (ns:=l) h fun q hq=>hn q (zaa _ hq)).n9 (by rw[LE.aV];exact hn p (zac ..))
theorem IP (ρ:bm):∀{ns:List (Nat×LE)},Nl ns=true->∀p∈ns,Wb ρ ns p.1=(p.2.ev ρ).toNat
 | [],_,p,h=>by cases h
 |q::l,hu,p,h=>by
  have hu:((l.all fun x=>!Nat.beq x.1 q.1)&&Nl l)=true:=hu;rw[za]at hu;unfold Wb;show (match (bif Nat.beq q.1 p.1 then some q.2 else Xp l p.1)with|some e=>(e.ev ρ).toNat|none=>0)=_;rcases List.mem_cons.1 h with rfl|h
  ·rw[zcm];rfl
  ·have hne:Nat.beq p.1 q.1=false:=by
     have:=List.all_eq_true.1 hu.1 p h;rw[zam]at this;exact this
   have hne2:Nat.beq q.1 p.1=false:=by
    cases hb:Nat.beq q.1 p.1 with
    |false=>rfl
    |true=>have:=aj hb;rw[this,zcm]at hne;cases hne
   rw[hne2];exact IP ρ hu.2 p h
theorem QU {K:Nat->Nat->SS->R}(h:((fresh s fun y s=>fresh s fun dv s=>K y dv s)).Ok)(hk:Ok c T G Γ ρ s)(u v:U):∃ρ',(K s.nx (s.nx+1) (aC (aC s))).Ok/\dh s.nx ρ ρ'/\Ok c T G Γ ρ' (aC (aC s))/\ρ' s.nx=u/\ρ' (s.nx+1)=v:=by
 obtain⟨h1,h2,h3,h4⟩:=az h hk u;obtain⟨k1,k2,k3,k4⟩:=az h1 h3 v;refine⟨_,k1,h2.trans k2 (zan _),k3,?_,k4⟩;rw[k2 s.nx (zdt _)];exact h4
theorem La {ns:List (Nat×LE)}(h:F6 s ns=true)(hs:Sat ρ s):∀p∈ns,0<=p.2.ev ρ/\p.2.lt s.nx=true:=fun p hp=>by
 have:=List.all_eq_true.1 h p hp;rw[za]at this;exact⟨av this.1 hs,this.2⟩
theorem A6 {ns:List (Nat×LE)}{sub:Nat}{os:List SO}{K:Nat->Nat->SS->R}(hns:F6 s ns=true)(hu:Nl ns=true)(hsub:bG s.nx sub=true)(h:((fresh s fun y s=>fresh s fun dv s=>K y dv s)).Ok)(hk:Ok c T G Γ ρ s) :
  ∃ρ' dn,(K s.nx (s.nx+1) (aC (aC s))).Ok/\dh s.nx ρ ρ'/\(ρ' s.nx).nn=Γ.ng/\(ρ' (s.nx+1)).gg=dn/\dn.at_=(fun _ _=>none)/\dn.fz=false/\(∀p∈ns,(((ρ' (s.nx+1)).gg.n p.1:Nat):Int)=p.2.ev ρ')/\(ρ' (s.nx+1)).gg.sub=ig ρ' sub/\Sat ρ' (aC (aC s))/\(aC (aC s)).den ρ'=s.den ρ/\Q c T G (iq Γ Γ.ng dn (Γ.ng+1)) ⟨(s.den ρ).L,(s.den ρ).os,(s.den ρ).eF,(Γ.ng,dn,true)::(s.den ρ).gs⟩:=by
 let dn:Gd:=⟨Wb ρ ns,fun _ _=>none,fun _=>0,false,ig ρ sub⟩
 obtain⟨ρ',k1,k2,k3,k4,k5⟩:=QU h hk (.n Γ.ng) (.g dn);have hs:=dK h;refine⟨ρ',dn,k1,k2,by rw[k4];rfl,by rw[k5];rfl,rfl,rfl,fun p hp=>?_,?_,k3.sat,?_,hk.q.W6 dn true fun _=>rfl⟩
 ·obtain⟨e1,e2⟩:=La hns hk.sat p hp;rw[k5,LE.cg k2 e2];show ((Wb ρ ns p.1:Nat):Int)=_;rw[IP ρ hu p hp];omega
 ·rw[k5,bR k2 hsub];rfl
 ·exact (SS.cg hs k2).1
theorem IQ {ns:List (Nat×LE)}{sub:Nat}{K:SS->R}(h:(IL ns sub s K).Ok)(hk:Ok c T G Γ ρ s):Ac c T G Γ s ρ K:=by
 unfold IL at h;cases hb:(F6 s ns&&(Nl ns&&bG s.nx sub))with
 |false=>rw[hb]at h;cases h
 |true =>
  rw[hb]at h;simp only[cond_true]at h;simp only[za]at hb;obtain⟨ρ',dn,k1,k2,k3,k4,_,k6,k7,k8,k9,JS,TO⟩:=A6 (os:=[]) hb.1 hb.2.1 hb.2.2 h hk;refine⟨G,iq Γ Γ.ng dn (Γ.ng+1),ρ',_,sD.refl _,k1,k2,?_,yz ⟨⟨k9.fs,k9.bs,k9.pw,k9.ats,k9.dB,k9.ne,k9.fz,fun p hp=>?_⟩,?_⟩ k7⟩
  ·have:∀(s0:SS) (dv:Nat) (l:List (Nat×LE)),(F5 s0 dv l).nx=s0.nx:=fun s0 dv l=>by
     induction l with
     |nil=>rfl
     |cons p l ih=>exact ih
   rw[this];show s.nx<=s.nx+1+1;omega
  ·rcases List.mem_cons.1 hp with rfl|hp
   ·exact k8
   ·exact k9.sb p hp
  ·have:(Ed (aC (aC s)) (s.nx+1,s.nx+1,true) (s.nx+1,sub)).den ρ'=⟨(s.den ρ).L,(s.den ρ).os,(s.den ρ).eF,(Γ.ng,dn,true)::(s.den ρ).gs⟩:=by
     refine St.ext' (by have:=congrArg St.L JS;exact this) (by have:=congrArg St.os JS;exact this) (by have:=congrArg St.eF JS;exact this) ?_;show ((ρ' s.nx).nn,(ρ' (s.nx+1)).gg,true)::_=_;rw[k3,k4];congr 1;have:=congrArg St.gs JS;exact this
   rw[this];exact TO
theorem Lb (s0:SS)(dv:Nat)(l:List (Nat×LE)):(F5 s0 dv l).nx=s0.nx:=by
 induction l with
 |nil=>rfl
 |cons p l ih=>exact ih
theorem CS (s0:SS)(d dv:Nat)(l:List Nat):(F3 s0 d dv l).nx=s0.nx:=by
 induction l with
 |nil=>rfl
 |cons p l ih=>exact ih
theorem F7 {ns:List (Nat×LE)}{sub b k:Nat}{K:SS->R}(h:(CQ ns sub b k s K).Ok)(hk:Ok c T G Γ ρ s):Ac c T G Γ s ρ K:=by
 unfold CQ at h;cases hb:(F6 s ns&&(Nl ns&&(bG s.nx sub&&Nat.blt b s.nx)))with
 |false=>rw[hb]at h;cases h
 |true =>
  rw[hb]at h;simp only[cond_true]at h;simp only[za]at hb;split at h
  ·rename_i o osA hr;cases hb2:osA.all (SO.lt s.nx)with
   |false=>rw[hb2]at h;cases h
   |true =>
    rw[hb2]at h;simp only[cond_true]at h;obtain⟨r1,r2⟩:=eK hr
    obtain⟨pk,rfl,hpk⟩:∃pk,o=.em b pk/\pk=.str:=by
     cases o<;>first|(cases r1;done)|skip
     rename_i y pk;have r1:(Nat.beq y b&&KL pk .str)=true:=r1;rw[za]at r1;have:=aj r1.1;have:=uF r1.2
     subst_vars
     exact⟨_,rfl,rfl⟩
    subst hpk;obtain⟨ρ',dn,k1,k2,k3,k4,k5,k6,k7,k8,k9,JS,TO⟩:=A6 (os:=[]) hb.1 hb.2.1 hb.2.2.1 h hk;have hpd:=dR r2 ρ;rw[zar,zbc]at hpd;obtain⟨o1,o2,o3⟩:=hk.own (r2.mem_iff.2 (by simp:SO.em b .str∈osA++[.em b .str]));have hgd:(iq Γ Γ.ng dn (Γ.ng+1)).gd Γ.ng=dn:=gq _ _ _ _;have hQ:=TO.conv (osA:=osA.map (SO.den ρ)) (o':=.am (ρ b).nn Γ.ng k) hpd rfl ⟨o2,zdt _,by rw[hgd,k5];exact fun l n j hj=>(by cases hj),[],o1,fun p hp=>(by cases hp),by rw[hgd,k5];exact fun l n=>rfl⟩
    have eO:osA.map (SO.den ρ')=osA.map (SO.den ρ):=zav fun o ho=>SO.cg k2 (List.all_eq_true.1 hb2 o ho);refine⟨G,iq Γ Γ.ng dn (Γ.ng+1),ρ',_,sD.refl _,k1,k2,?_,yz ⟨⟨k9.fs,k9.bs,k9.pw,k9.ats,k9.dB,k9.ne,k9.fz,fun p hp=>?_⟩,?_⟩ k7⟩
    ·rw[Lb];show s.nx<=s.nx+1+1;omega
    ·rcases List.mem_cons.1 hp with rfl|hp
     ·exact k8
     ·exact k9.sb p hp
    ·have:(Ed (c6 (aC (aC s)) (osA++[.am b (s.nx+1) k])) (s.nx+1,s.nx+1,true) (s.nx+1,sub)).den ρ'=⟨(s.den ρ).L,osA.map (SO.den ρ)++[.am (ρ b).nn Γ.ng k],(s.den ρ).eF,(Γ.ng,dn,true)::(s.den ρ).gs⟩:=by
       refine St.ext' (by have:=congrArg St.L JS;exact this) ?_ (by have:=congrArg St.eF JS;exact this) ?_
       ·show (osA++[SO.am b (s.nx+1) k]).map (SO.den ρ')=_;rw[zar,eO,zbc];show _++[Own.am (ρ' b).nn (ρ' s.nx).nn k]=_;rw[k3,k2 b (ax hb.2.2.2)]
       ·show ((ρ' s.nx).nn,(ρ' (s.nx+1)).gg,true)::_=_;rw[k3,k4];congr 1;have:=congrArg St.gs JS;exact this
     rw[this];exact hQ
  ·cases h
theorem rI {g dd:Nat}{dn:Gd}{w:Bool}{K2:Nat->SS->R}(hgw:kI s.gs g=some dd)(hle:(ρ dd).gg.Le dn)(hw:w=true->dn.fz=false)(hat:dn.at_=(ρ dd).gg.at_)(hd:Nat.blt dd s.nx=true)(hg:bG s.nx g=true)(h:(fresh s K2).Ok)(hk:Ok c T G Γ ρ s) :
  ∃ρ',(K2 s.nx (aC s)).Ok/\dh s.nx ρ ρ'/\(ρ' s.nx).gg=dn/\Sat ρ' (aC s)/\∀dB fz,(∀p∈dB,0<=p.2.1.ev ρ'/\(ρ' p.1).gg.fz=true/\(((ρ' p.1).gg.fl (p.2.1.ev ρ').toNat:Nat):Int)=p.2.2.ev ρ')->(∀d∈fz,(ρ' d).gg.fz=true)->Ok c T G (iq Γ (ig ρ g) dn Γ.ng) ρ' (sW (aC s) g s.nx w s.os (sF s dd s.nx) dB fz (ou s.sb dd s.nx)):=by
 obtain⟨p1,p2,p3,p4⟩:=az h hk (.g dn);have hgg:(ρ.up s.nx (.g dn) s.nx).gg=dn:=by rw[p4];rfl
 have eD:=(SS.cg (dK h) p2).1;have hdd:=p2 dd (ax hd);have hmemg:=gL hgw;obtain⟨g1,g2,g3⟩:=hk.q.gs (ig ρ g,(ρ dd).gg,true) (List.mem_map.2 ⟨(g,dd,true),hmemg,rfl⟩);have g2:Γ.gd (ig ρ g)=(ρ dd).gg:=g2;obtain⟨g3,g4,g5⟩:=g3 rfl;have g4:(ρ dd).gg.fz=false:=g4;refine⟨_,p1,p2,hgg,p3.sat,fun dB fz hfls hfz=>⟨⟨p3.sat.fs,p3.sat.bs,p3.sat.pw,fun p hp=>?_,fun p hp=>?_,p3.sat.ne,fun d hd=>?_,fun p hp=>?_⟩,?_⟩⟩
 ·rcases List.mem_append.1 hp with hp|hp
  ·obtain⟨q,h1,rfl⟩:=List.mem_map.1 hp;obtain⟨h2,h3⟩:=List.mem_filter.1 h1;have e:=aj h3;have:=p3.sat.ats q h2;unfold P4 Bu at this ⊢;simp only[e,hdd]at this;simp only[hgg,hat];exact this
  ·exact p3.sat.ats p hp
 ·rcases List.mem_append.1 hp with hp|hp
  ·exact hfls p hp
  ·exact p3.sat.dB p hp
 ·rcases List.mem_append.1 hd with hd|hd
  ·exact hfz d hd
  ·exact p3.sat.fz d hd
 ·rcases List.mem_append.1 hp with hp|hp
  ·exact tq (dd:=dd) (dn:=s.nx) (by rw[hgg,hdd];exact hle.sub) p3.sat.sb p hp
  ·exact p3.sat.sb p hp
 ·have hQ:=hk.q.IC (g:=ig ρ g) (d0:=(ρ dd).gg) (dn:=dn) (w:=w) (gs':=(ig ρ g,dn,w)::(mf s).map fun p=>(ig ρ p.1,(ρ p.2.1).gg,p.2.2)) (List.mem_map.2 ⟨(g,dd,true),hmemg,rfl⟩) hle hw (fun _ _ _ _=>hat) (fun p hp=>by
    rcases List.mem_cons.1 hp with rfl|hp
    ·exact .inl rfl
    ·obtain⟨p0,h1,rfl⟩:=List.mem_map.1 hp;obtain⟨k1,k2⟩:=rH (g:=ig ρ g) hk h1 (by rw[g2];exact g4)
     exact .inr ⟨List.mem_map.2 ⟨p0,k1,rfl⟩,k2⟩)
  have:(sW (aC s) g s.nx w s.os (sF s dd s.nx) dB fz (ou s.sb dd s.nx)).den (ρ.up s.nx (.g dn))=⟨(s.den ρ).L,(s.den ρ).os,(s.den ρ).eF,(ig ρ g,dn,w)::(mf s).map fun p=>(ig ρ p.1,(ρ p.2.1).gg,p.2.2)⟩:=by
   refine St.ext' (by have:=congrArg St.L eD;exact this) (by have:=congrArg St.os eD;exact this) (by have:=congrArg St.eF eD;exact this) ?_;show (ig (ρ.up s.nx (.g dn)) g,(ρ.up s.nx (.g dn) s.nx).gg,w)::(mf s).map (fun p=>(ig (ρ.up s.nx (.g dn)) p.1,(ρ.up s.nx (.g dn) p.2.1).gg,p.2.2))=_;rw[hgg,bR p2 hg];congr 1;refine zav fun p hp=>?_;have hs:=dK h;unfold SS.ok at hs;simp only[za,zb]at hs;have:=hs.2.2.2.1 p (List.mem_filter.1 hp).1;rw[bR p2 this.1,p2 _ (ax this.2)]
  rw[this];exact hQ
theorem F8 {g k:Nat}{e:LE}{K:SS->R}(h:(CR g k e s K).Ok)(hk:Ok c T G Γ ρ s):Ac c T G Γ s ρ K:=by
 unfold CR at h;split at h
 ·rename_i dd hgw;cases hb:(aX s (e.sub (.a (.gn dd k)))&&(e.lt s.nx&&(Nat.blt dd s.nx&&bG s.nx g)))with
  |false=>rw[hb]at h;cases h
  |true =>
   rw[hb]at h;simp only[cond_true]at h;simp only[za]at hb;obtain⟨b1,b2,b3,b4⟩:=hb;have e1:=av b1 hk.sat;rw[LE.au,LE.aV]at e1;have e1:0<=e.ev ρ-(((ρ dd).gg.n k:Nat):Int):=e1
   have hfz:(ρ dd).gg.fz=false:=by
    obtain⟨_,_,g3⟩:=hk.q.gs (ig ρ g,(ρ dd).gg,true) (List.mem_map.2 ⟨(g,dd,true),gL hgw,rfl⟩);exact (g3 rfl).2.1
   have hle:(ρ dd).gg.Le ⟨fun j=>bif Nat.beq j k then (e.ev ρ).toNat else (ρ dd).gg.n j,(ρ dd).gg.at_,(ρ dd).gg.fl,(ρ dd).gg.fz,(ρ dd).gg.sub⟩:=by
    refine⟨fun j=>?_,fun _ _ _ h=>h,fun h=>?_,rfl⟩
    ·show (ρ dd).gg.n j<=bif Nat.beq j k then _ else _;cases hj:Nat.beq j k with
     |true=>have:=aj hj;subst this;show _<=(e.ev ρ).toNat;omega
     |false=>exact zad _
    ·rw[hfz]at h;cases h
   obtain⟨ρ',p1,p2,p3,p4,p5⟩:=rI (dn:=⟨fun j=>bif Nat.beq j k then (e.ev ρ).toNat else (ρ dd).gg.n j,(ρ dd).gg.at_,(ρ dd).gg.fl,(ρ dd).gg.fz,(ρ dd).gg.sub⟩) (w:=true) hgw hle (fun _=>hfz) rfl b3 b4 h hk;have hdd:=p2 dd (ax b3);refine⟨G,iq Γ (ig ρ g) ⟨fun j=>bif Nat.beq j k then (e.ev ρ).toNat else (ρ dd).gg.n j,(ρ dd).gg.at_,(ρ dd).gg.fl,(ρ dd).gg.fz,(ρ dd).gg.sub⟩ Γ.ng,ρ',_,sD.refl _,p1,p2,?_,Ok.n9 ?_ ?_⟩
   ·show s.nx<=(F3 _ _ _ _).nx;rw[CS];show s.nx<=s.nx+1;omega
   ·have key:∀(ks:List Nat) (s0:SS),(∀j∈ks,Nat.beq j k=false)->Ok c T G (iq Γ (ig ρ g) ⟨fun j=>bif Nat.beq j k then (e.ev ρ).toNat else (ρ dd).gg.n j,(ρ dd).gg.at_,(ρ dd).gg.fl,(ρ dd).gg.fz,(ρ dd).gg.sub⟩ Γ.ng) ρ' s0->Ok c T G (iq Γ (ig ρ g) ⟨fun j=>bif Nat.beq j k then (e.ev ρ).toNat else (ρ dd).gg.n j,(ρ dd).gg.at_,(ρ dd).gg.fl,(ρ dd).gg.fz,(ρ dd).gg.sub⟩ Γ.ng) ρ' (F3 s0 dd s.nx ks):=fun ks s0 hks h0=>by
      induction ks with
      |nil=>exact h0
      |cons j ks ih =>
       refine (ih fun j hj=>hks j (zaa _ hj)).n9 ?_;rw[LE.aV,LE.aV];show (((ρ' s.nx).gg.n j:Nat):Int)=(((ρ' dd).gg.n j:Nat):Int);rw[p3,hdd];show ((bif Nat.beq j k then (e.ev ρ).toNat else (ρ dd).gg.n j:Nat):Int)=_;rw[hks j (zac ..)];rfl
    exact key _ _ (fun j hj=>by have:=(List.mem_filter.1 hj).2;rw[zam]at this;exact this) (p5 [] [] (fun p hp=>by cases hp) (fun d hd=>by cases hd))
   ·rw[LE.aV,LE.cg p2 b2];show (((ρ' s.nx).gg.n k:Nat):Int)=_;rw[p3];show ((bif Nat.beq k k then (e.ev ρ).toNat else (ρ dd).gg.n k:Nat):Int)=_;rw[zcm];show (((e.ev ρ).toNat:Nat):Int)=_;omega
 ·cases h
theorem IU {g:Nat}{K:SS->R}(h:(IM g s K).Ok)(hk:Ok c T G Γ ρ s):Ac c T G Γ s ρ K:=by
 unfold IM at h;split at h
 ·rename_i dd hgw;cases hb:(Nat.blt dd s.nx&&bG s.nx g)with
  |false=>rw[hb]at h;cases h
  |true =>
   rw[hb]at h;simp only[cond_true]at h;rw[za]at hb
   have hfz:(ρ dd).gg.fz=false:=by
    obtain⟨_,_,g3⟩:=hk.q.gs (ig ρ g,(ρ dd).gg,true) (List.mem_map.2 ⟨(g,dd,true),gL hgw,rfl⟩);exact (g3 rfl).2.1
   obtain⟨ρ',p1,p2,p3,p4,p5⟩:=rI (dn:=⟨(ρ dd).gg.n,(ρ dd).gg.at_,(ρ dd).gg.fl,true,(ρ dd).gg.sub⟩) (w:=false) hgw ⟨fun j=>zad _,fun _ _ _ h=>h,fun h=>(by rw[hfz]at h;cases h),rfl⟩ (fun h=>by cases h) rfl hb.1 hb.2 h hk;have hdd:=p2 dd (ax hb.1);refine⟨G,iq Γ (ig ρ g) ⟨(ρ dd).gg.n,(ρ dd).gg.at_,(ρ dd).gg.fl,true,(ρ dd).gg.sub⟩ Γ.ng,ρ',_,sD.refl _,p1,p2,?_,yw (p5 [] [s.nx] (fun p hp=>by cases hp) (fun d hd=>by rw[List.mem_singleton.1 hd,p3])) fun k=>by rw[p3,hdd]⟩;rw[CS];show s.nx<=s.nx+1;omega
 ·cases h
end
end Go.Rd
namespace Go.Rd
open Go.aK Go.RowKit Go.Rt
def SV.vx (f:SC->SC):SV->SV
 |.v ag cs=>.v ag (cs.map f)
 |.cN l=>.cN (l.map fun p=>(p.1,p.2.map f))
 |.undef=>.undef
 |.wB q bs cs=>.wB q (bs.map f) (cs.map f)
 |.slt q e sz=>.slt q e sz
def SO.vx (f:SC->SC):SO->SO
 |.loc b el cs=>.loc b el (cs.map f)
 |o=>o
def yA (f:SC->SC)(s:SS):SS:=⟨s.nx,s.L.map fun p=>(p.1,p.2.vx f),s.os.map (SO.vx f),s.ty,s.gs,s.fs,s.bs,s.pw,s.ats,s.dB,s.ne,s.fz,s.sb⟩
section
variable {c:Cx}{T:Tm}{G G':GH}{Γ Γ':dI}{ρ ρ':bm}{s s':SS}{cf:Cf}{ops:Array Oper}{i d:Nat}
theorem rJ {f:SC->SC}(h:∀x,(f x).den ρ=x.den ρ)(cs:List SC):aD ρ (cs.map f)=aD ρ cs:=by
 unfold aD;rw[ze];exact zav fun x _=>h x
theorem wR {f:SC->SC}(h:∀x,(f x).den ρ=x.den ρ)(p:Bool×List SC):cj ρ (p.1,p.2.map f)=cj ρ p:=by unfold cj;simp only[rJ h]
theorem SV.uT {f:SC->SC}(h:∀x,(f x).den ρ=x.den ρ)(v:SV):(v.vx f).den ρ=v.den ρ:=by
 cases v with
 |v ag cs=>exact wR h (ag,cs)
 |cN l =>
  show AV.cN ((l.map fun p=>(p.1,p.2.map f)).map (cj ρ))=.cN (l.map (cj ρ));rw[ze];congr 1;exact zav fun p _=>wR h p
 |undef=>rfl
 |wB q bs cs=>simp only[SV.vx,SV.den,rJ h]
 |slt q e sz=>rfl
theorem SO.uT {f:SC->SC}(h:∀x,(f x).den ρ=x.den ρ)(o:SO):(o.vx f).den ρ=o.den ρ:=by
 cases o with
 |loc b el cs=>simp only[SO.vx,SO.den,rJ h]
 |_=>rfl
theorem IV {f:SC->SC}(h:∀x,(f x).den ρ=x.den ρ):(yA f s).den ρ=s.den ρ:=by
 refine St.ext' ?_ ?_ rfl rfl
 ·show (s.L.map fun p=>(p.1,p.2.vx f)).map (fun p=>(p.1,p.2.den ρ))=s.L.map fun p=>(p.1,p.2.den ρ);rw[ze];exact zav fun p _=>by show (p.1,(p.2.vx f).den ρ)=_;rw[SV.uT h]
 ·show (s.os.map (SO.vx f)).map (SO.den ρ)=s.os.map (SO.den ρ);rw[ze];exact zav fun o _=>SO.uT h o
theorem Ok.yA {f:SC->SC}(hk:Ok c T G Γ ρ s)(h:∀x,(f x).den ρ=x.den ρ):Ok c T G Γ ρ (yA f s):=⟨⟨hk.sat.fs,hk.sat.bs,hk.sat.pw,hk.sat.ats,hk.sat.dB,hk.sat.ne,hk.sat.fz,hk.sat.sb⟩,by rw[IV h];exact hk.q⟩
def IW (b x:Nat):SC->SC
 |.bZ b' o=>bif Nat.beq b' b then (bif Nat.beq o 0 then .ref x else .vb x o)else .bZ b' o
 |c=>c
def IX (b x:Nat):SC->SC
 |.cV b'=>bif Nat.beq b' b then .ref x else .cV b'
 |c=>c
def IY (y x:Nat):SC->SC
 |.ref y'=>bif Nat.beq y' y then .ref x else .ref y'
 |c=>c
theorem CT {b x:Nat}(h:(ρ x).vv=.bZ (ρ b).nn 0)(q:SC):(IW b x q).den ρ=q.den ρ:=by
 cases q<;>first|rfl|skip
 rename_i b' o;show (bif Nat.beq b' b then (bif Nat.beq o 0 then SC.ref x else .vb x o)else .bZ b' o).den ρ=_;cases hb:Nat.beq b' b with
 |false=>rfl
 |true =>
  have:=aj hb;subst this;cases ho:Nat.beq o 0 with
  |true=>have:=aj ho;subst this;show (ρ x).vv=_;rw[h];rfl
  |false=>show mz (ρ x).vv o=.bZ (ρ b').nn o;rw[h];show AV.bZ _ (0+o)=_;rw[zap]
theorem CU {b x:Nat}(h:(ρ x).vv=.cV (ρ b).nn)(q:SC):(IX b x q).den ρ=q.den ρ:=by
 cases q<;>first|rfl|skip
 rename_i b';show (bif Nat.beq b' b then SC.ref x else .cV b').den ρ=_;cases hb:Nat.beq b' b with
 |false=>rfl
 |true=>have:=aj hb;subst this;show (ρ x).vv=_;rw[h];rfl
theorem CV {y x:Nat}(h:(ρ x).vv=(ρ y).vv)(q:SC):(IY y x q).den ρ=q.den ρ:=by
 cases q<;>first|rfl|skip
 rename_i b';show (bif Nat.beq b' y then SC.ref x else .ref b').den ρ=_;cases hb:Nat.beq b' y with
 |false=>rfl
 |true=>have:=aj hb;subst this;exact h
def TP (b:Nat):SO->Bool|.loc y _ _=>Nat.beq y b|_=>false
def CW (cf:Cf)(b cc g:Nat)(s:SS)(K:SS->R):R:=match mD (TP b) s.os with
 |some (.loc _ el cs,osA)=>bif Nat.beq el (cf.Φ.ty cc)&&((cf.Φ.fV cc&&!cf.Φ.raw cc)&&(Nat.beq cs.length (af cf.P el)&&(uQ s g&&(bG s.nx g&&(Nat.blt b s.nx&&osA.all (SO.lt s.nx))))))then
  (match rD cf s g (ghost s.gs g) (.k 0) (cf.Φ.ks cc) cs with
   |some os=>bif aX s ((LE.k WU).sub (ji os))then fresh s fun x s=>K (yA (IW b x) (bL (c6 s osA) (.pt x cc g)))else .bad 240 s
   |none=>.bad 241 s)
  else .bad 242 s
 |_=>.bad 243 s
theorem F9 {b cc g:Nat}{K:SS->R}(hP:cf.P=c.P)(hΦ:cf.Φ=c.Φ)(h:(CW cf b cc g s K).Ok)(hk:Ok c T G Γ ρ s):Ac c T G Γ s ρ K:=by
 unfold CW at h;rw[hP,hΦ]at h;split at h
 ·rename_i b' el cs osA hr;obtain⟨r1,r2⟩:=eK hr;have hbb:b'=b:=aj r1;subst hbb;cases hb:(Nat.beq el (c.Φ.ty cc)&&((c.Φ.fV cc&&!c.Φ.raw cc)&&(Nat.beq cs.length (af c.P el)&&(uQ s g&&(bG s.nx g&&(Nat.blt b' s.nx&&osA.all (SO.lt s.nx)))))))with
  |false=>rw[hb]at h;cases h
  |true =>
   rw[hb]at h;simp only[cond_true]at h;simp only[za,zam]at hb;obtain⟨b1,⟨b2,hrw⟩,b3,b4,b5,b6,b7⟩:=hb;have b1:=aj b1;subst b1;have b3:=aj b3;cases hch:rD cf s g (ghost s.gs g) (.k 0) (c.Φ.ks cc) cs with
   |none=>rw[hch]at h;cases h
   |some os =>
    rw[hch]at h;simp only at h;cases hw:aX s ((LE.k WU).sub (ji os))with
    |false=>rw[hw]at h;cases h
    |true =>
     rw[hw]at h;simp only[cond_true]at h;obtain⟨fs,w1,w2,w3⟩:=n7 hΦ hk (fun dv h=>bz h hk) (J:=0) (by rw[LE.bk];exact⟨zby _,rfl⟩) hch;have hwu:=av hw hk.sat;rw[LE.au,LE.bk,w2]at hwu;have kL:(aD ρ cs).length=cs.length:=by simp[aD]
     obtain⟨hG,hm⟩:=hk.own (r2.mem_iff.2 (by simp:SO.loc b' (c.Φ.ty cc) cs∈osA++[.loc b' (c.Φ.ty cc) cs]));have hpd:=dR r2 ρ;rw[zar,zbc]at hpd;have hglt:ig ρ g<Γ.ng:=kH b4 hk
     have hQ:=hk.q.W7 (osA:=osA.map (SO.den ρ)) (o:=SO.den ρ (.loc b' (c.Φ.ty cc) cs)) (b:=(ρ b').nn) (y:=.cells cc (ig ρ g) [WU]) (g':=.cells .data (c.Φ.ty cc) (aD ρ cs).length (aD ρ cs)) (tys':=[.pt (.bZ (ρ b').nn 0) cc (ig ρ g)]) hpd rfl hm (fun _ _ _ h=>by rw[hG]at h;cases h) (fun _ _ _ h=>by rw[hG]at h;cases h)
      (fun hr hl=>⟨⟨hglt,hrw⟩,fun _ m hm=>List.mem_singleton.1 hm,_,_,aA _ _ _,by rw[kL,b3];simp,fun j m hj=>by
       cases j with
       |succ j=>simp at hj
       |zero =>
        simp only[zba,Option.some.injEq]at hj;subst hj;rw[zbw,zca,zc (by rw[kL,b3];exact zad _)]
        exact eY.le ⟨fs,w1,by omega,w3⟩ hr hl hglt⟩) (fun f hf=>by
       rw[List.mem_singleton.1 hf]
       exact⟨(ρ b').nn,[WU],rfl,updΓ_same _ _ _,by simp⟩)
     obtain⟨p1,p2,p3,p4⟩:=az h hk (.v (.bZ (ρ b').nn 0) []);generalize hU:U.v (.bZ (ρ b').nn 0) []=uu at p1 p2 p3 p4;have hv':(ρ.up s.nx uu s.nx).vv=.bZ (ρ b').nn 0:=by rw[p4,<-hU];rfl
     have eD:=(SS.cg (dK h) p2).1;have eO:osA.map (SO.den (ρ.up s.nx uu))=osA.map (SO.den ρ):=zav fun o ho=>SO.cg p2 (List.all_eq_true.1 b7 o ho);refine⟨_,_,ρ.up s.nx uu,_,fun k=>?_,p1,p2,zan _,Ok.yA (G:=fx G (ρ b').nn (.cells .data (c.Φ.ty cc) (aD ρ cs).length (aD ρ cs))) (Γ:=updΓ Γ (ρ b').nn (.cells cc (ig ρ g) [WU])) ⟨⟨p3.sat.fs,p3.sat.bs,p3.sat.pw,p3.sat.ats,p3.sat.dB,p3.sat.ne,p3.sat.fz,p3.sat.sb⟩,?_⟩ (CT ?_)⟩
     ·by_cases e:k=(ρ b').nn
      ·subst e;exact .inr ⟨_,_,_,hG,aA _ _ _⟩
      ·exact .inl (dH e)
     ·have:(bL (c6 (aC s) osA) (.pt s.nx cc g)).den (ρ.up s.nx uu)=⟨(s.den ρ).L,osA.map (SO.den ρ),.pt (.bZ (ρ b').nn 0) cc (ig ρ g)::(s.den ρ).eF,(s.den ρ).gs⟩:=by
        refine St.ext' (by have:=congrArg St.L eD;exact this) eO ?_ (by have:=congrArg St.gs eD;exact this);show dW.den _ (.pt s.nx cc g)::s.ty.map (dW.den _)=_;rw[show s.ty.map (dW.den (ρ.up s.nx uu))=(s.den ρ).eF from congrArg St.eF eD];simp only[dW.den];rw[hv',bR p2 b5]
      rw[this];exact hQ
     ·rw[hv',p2 b' (ax b6)]
 ·cases h
def isMap (b:Nat):SO->Bool|.em y _=>Nat.beq y b|.am y _ _=>Nat.beq y b|.im y _=>Nat.beq y b|.km y _ _ _=>Nat.beq y b|.kq y _ _ _ _=>Nat.beq y b|_=>false
def TQ (g:Nat)(os:List SO):Bool:=os.any fun o=>match o with|.am _ g' _=>Nat.beq g' g|_=>false
def Lc (cf:Cf)(cc g:Nat)(osA:List SO)(s:SS)(o:SO):Bool:=match o,cf.Φ.mv cc,ghost s.gs g with
 |.am _ g' q,.FM q',some d=>Nat.beq g' g&&(Nat.beq q q'&&(KL (cf.Φ.pk cc) .str&&s.fz.contains d))
 |.im _ e,.kd (.nat k),some d=>KL (cf.Φ.pk cc) .str&&aX s ((LE.a (.gn d k)).sub e)
 |.em _ pk,.kd _,_=>KL (cf.Φ.pk cc) pk
 |.em _ pk,.unit,_=>KL (cf.Φ.pk cc) pk
 |.em _ pk,.DD,some d=>KL (cf.Φ.pk cc) .pair&&(s.fz.contains d&&TQ g osA)
 |.km _ c' g' _,_,_=>Nat.beq c' cc&&Nat.beq g' g
 |.kq _ c' g' _ _,_,_=>Nat.beq c' cc&&Nat.beq g' g
 |_,_,_=>false
def CX (cf:Cf)(b cc g:Nat)(s:SS)(K:SS->R):R:=match mD (isMap b) s.os with
 |some (o,osA)=>bif Lc cf cc g osA s o&&(uQ s g&&(bG s.nx g&&(Nat.blt b s.nx&&osA.all (SO.lt s.nx))))then
  fresh s fun x s=>K (yA (IX b x) (bL (c6 s osA) (.mp x cc g)))
  else .bad 244 s
 |none=>.bad 245 s
theorem Gb {p:AV×AV->Prop}:∀q∈([]:List (AV×AV)),p q:=fun q h=>by cases h
theorem Ld {b cc g:Nat}{osA:List SO}{o:SO}(hΦ:cf.Φ=c.Φ)(h:Lc cf cc g osA s o=true)(hm:isMap b o=true)(hA:∀o∈osA,o∈s.os)(ho:o∈s.os)(hk:Ok c T G Γ ρ s):(o.den ρ).aY=some (ρ b).nn/\Γ.m (ρ b).nn=none/\∃es,G (ρ b).nn=some (.map es)/\(∀p∈es,nf p.2)/\dA c.P c.Φ G Γ cc (ig ρ g) es:=by
 have hown:=hk.own ho;have strs:∀es:List (AV×AV),c.Φ.pk cc=.str->(∀p∈es,de .str p.1)->∀p∈es,de (c.Φ.pk cc) p.1:=fun es e h=>by rw[e];exact h
 unfold Lc at h;rw[hΦ]at h;split at h
 ·rename_i y g' q q' dd hmv hgd;simp only[za]at h;have e1:=aj h.1;have e2:=aj h.2.1;have e3:=uF h.2.2.1;have e4:y=b:=aj hm;subst e1 e2 e4;obtain⟨o1,o0,obd,es,o2,o3,o4⟩:=hown;have hdd:=bz hgd hk;have hfz:=hk.sat.fz dd (List.contains_iff_mem.1 h.2.2.2);refine⟨rfl,o1,es,o2,fun p hp=>(o3 p hp).2,strs es e3 fun p hp=>(o3 p hp).1,?_⟩;rw[hmv];exact⟨e3,by rw[hdd];exact hfz,o4,obd⟩
 ·rename_i y e k dd hmv hgd;rw[za]at h;have e3:=uF h.1;have e4:y=b:=aj hm;subst e4;obtain⟨o1,es,o2,o3⟩:=hown;have hdd:=bz hgd hk;have he:=av h.2 hk.sat;rw[LE.au,LE.aV]at he;have he:0<=(((ρ dd).gg.n k:Nat):Int)-e.ev ρ:=he;refine⟨rfl,o1,es,o2,fun p hp=>?_,strs es e3 fun p hp=>(o3 p hp).1,?_⟩
  ·obtain⟨_,n,h1,_⟩:=o3 p hp;rw[h1];exact lV _ _
  ·rw[hmv];intro p hp;obtain⟨_,n,h1,h2⟩:=o3 p hp;exact⟨[],⟨⟨n,h1,by rw[hdd];omega⟩,rfl⟩,fun f hf=>by cases hf⟩
 ·rename_i y pk kd hmv;have e4:y=b:=aj hm;subst e4;obtain⟨o1,o2,o3⟩:=hown;refine⟨rfl,o2,[],o1,Gb,fun p hp=>(by cases hp),?_⟩;rw[hmv];exact Gb
 ·rename_i y pk hmv;have e4:y=b:=aj hm;subst e4;obtain⟨o1,o2,o3⟩:=hown;refine⟨rfl,o2,[],o1,Gb,fun p hp=>(by cases hp),?_⟩;rw[hmv];exact Gb
 ·rename_i y pk dd hmv hgd;simp only[za]at h;have e3:=uF h.1;have e4:y=b:=aj hm;subst e4;obtain⟨o1,o2,o3⟩:=hown;have hdd:=bz hgd hk;have hfz:=hk.sat.fz dd (List.contains_iff_mem.1 h.2.1);refine⟨rfl,o2,[],o1,Gb,fun p hp=>(by cases hp),?_⟩;rw[hmv];refine⟨e3,by rw[hdd];exact hfz,fun l n l' n' hs=>?_,Gb⟩;obtain⟨oa,m1,m2⟩:=List.any_eq_true.1 h.2.2;cases oa<;>first|(cases m2;done)|skip
  rename_i b2 g' k2;have:=aj m2;subst this;obtain⟨_,_,_,es,q2,q3,q4⟩:=hk.own (hA _ m1);have h1:=q4 l n;have h2:=q4 l' n';rw[uS (pk:=.str) (x:=.str l n) (k:=.str l' n') ⟨l,n,rfl⟩ ⟨l',n',rfl⟩ hs fun p hp=>(q3 p hp).1,h2]at h1;cases ha:(Γ.gd (ig ρ g')).at_ l n with
  |none=>rw[ha]at h1;cases hb:(Γ.gd (ig ρ g')).at_ l' n' with
   |none=>rfl
   |some j=>rw[hb]at h1;cases h1
  |some i=>rw[ha]at h1;cases hb:(Γ.gd (ig ρ g')).at_ l' n' with
   |none=>rw[hb]at h1;cases h1
   |some j =>
    rw[hb]at h1;simp only[zaz,Option.some.injEq,AV.int.injEq,true_and]at h1;have h1:(j:Int)=(i:Int):=h1;congr 1;omega
 ·rename_i _ _ y c' g' n;rw[za]at h;have e1:=aj h.1;have e2:=aj h.2;have e4:y=b:=aj hm;subst e1 e2 e4;obtain⟨o1,_,_,es,o4,_,o6,o7⟩:=hown;exact⟨rfl,o1,es,o4,o6,o7⟩
 ·rename_i _ _ y c' g' n q;rw[za]at h;have e1:=aj h.1;have e2:=aj h.2;have e4:y=b:=aj hm;subst e1 e2 e4;obtain⟨o1,_,_,es,o4,_,o6,o7,_⟩:=hown;exact⟨rfl,o1,es,o4,o6,o7⟩
 ·cases h
theorem Gc {b cc g:Nat}{K:SS->R}(hΦ:cf.Φ=c.Φ)(h:(CX cf b cc g s K).Ok)(hk:Ok c T G Γ ρ s):Ac c T G Γ s ρ K:=by
 unfold CX at h;split at h
 ·rename_i o osA hr;obtain⟨r1,r2⟩:=eK hr;cases hb:(Lc cf cc g osA s o&&(uQ s g&&(bG s.nx g&&(Nat.blt b s.nx&&osA.all (SO.lt s.nx)))))with
  |false=>rw[hb]at h;cases h
  |true =>
   rw[hb]at h;simp only[cond_true]at h;simp only[za]at hb;obtain⟨b1,b2,b3,b4,b5⟩:=hb;obtain⟨hblk,hm,es,hG,hnf,hM⟩:=Ld hΦ b1 r1 (fun o ho=>r2.mem_iff.2 (by simp[ho])) (r2.mem_iff.2 (by simp)) hk;have hpd:=dR r2 ρ;rw[zar,zbc]at hpd;have hself:fx G (ρ b).nn (.map es)=G:=A5 hG;have hglt:ig ρ g<Γ.ng:=kH b2 hk
   have hQ:=hk.q.W7 (osA:=osA.map (SO.den ρ)) (o:=SO.den ρ o) (b:=(ρ b).nn) (y:=.map cc (ig ρ g)) (g':=.map es) (tys':=[.mp (.cV (ρ b).nn) cc (ig ρ g)]) hpd hblk hm (fun _ _ _ h=>by rw[hG]at h;cases h) (fun _ _ _ h=>by rw[hG]at h;cases h)
    (fun hr hl=>⟨hglt,es,aA _ _ _,hnf,hM.le hr hl rfl⟩) (fun f hf=>by
     rw[List.mem_singleton.1 hf]
     exact⟨(ρ b).nn,rfl,updΓ_same _ _ _⟩)
   rw[hself]at hQ;obtain⟨p1,p2,p3,p4⟩:=az h hk (.v (.cV (ρ b).nn) []);generalize hU:U.v (.cV (ρ b).nn) []=uu at p1 p2 p3 p4;have hv':(ρ.up s.nx uu s.nx).vv=.cV (ρ b).nn:=by rw[p4,<-hU];rfl
   have eD:=(SS.cg (dK h) p2).1;have eO:osA.map (SO.den (ρ.up s.nx uu))=osA.map (SO.den ρ):=zav fun o ho=>SO.cg p2 (List.all_eq_true.1 b5 o ho);refine⟨G,_,ρ.up s.nx uu,_,sD.refl _,p1,p2,zan _,Ok.yA (Γ:=updΓ Γ (ρ b).nn (.map cc (ig ρ g))) ⟨⟨p3.sat.fs,p3.sat.bs,p3.sat.pw,p3.sat.ats,p3.sat.dB,p3.sat.ne,p3.sat.fz,p3.sat.sb⟩,?_⟩ (CU ?_)⟩
   ·have:(bL (c6 (aC s) osA) (.mp s.nx cc g)).den (ρ.up s.nx uu)=⟨(s.den ρ).L,osA.map (SO.den ρ),.mp (.cV (ρ b).nn) cc (ig ρ g)::(s.den ρ).eF,(s.den ρ).gs⟩:=by
      refine St.ext' (by have:=congrArg St.L eD;exact this) eO ?_ (by have:=congrArg St.gs eD;exact this);show dW.den _ (.mp s.nx cc g)::s.ty.map (dW.den _)=_;rw[show s.ty.map (dW.den (ρ.up s.nx uu))=(s.den ρ).eF from congrArg St.eF eD];simp only[dW.den];rw[hv',bR p2 b3]
    rw[this];exact hQ
   ·rw[hv',p2 b (ax b4)]
 ·cases h
end
end Go.Rd
