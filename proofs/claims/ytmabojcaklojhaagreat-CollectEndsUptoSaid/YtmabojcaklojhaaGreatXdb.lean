/- Part Xdb of the proof of CollectEnds: no condition. -/
import Derived.Test.YtmabojcaklojhaaGreatXda
set_option linter.unusedSimpArgs false
set_option linter.unusedVariables false
namespace Go.Rd
open Go.aI Go.RowKit Go.Rt
section
variable {c:Cx}{T:Tm}{G:GH}{Γ:dy}{ρ ρ':aZ}{s s':SS}{cf:Cf}{ops:Array Oper}{i:Nat}
theorem gF {t:Nat}{v:SV}(h:GX s (.tmp t)=some v)(hq:Q c T G Γ (s.den ρ)):T.at t=v.den ρ:=hq.at_ _ _ (gD h)
def Ea (s:SS)(y:Nat)(e:LE):Bool:=(py s.ty y).isSome&&(bo s e&&bo s (((LE.a (.len y)).sub e).bk (-1)))
theorem rB {y:Nat}{e:LE}(h:Ea s y e=true)(hk:Ok c T G Γ ρ s):∃cc g b o cp,py s.ty y=some (cc,g)/\(ρ y).vv=.cN b o (ρ y).ns.length cp/\0<=e.ev ρ/\(e.ev ρ).toNat<(ρ y).ns.length/\fF c.P c.Φ G Γ (.sl (ρ y).vv cc (ig ρ g) (ρ y).ns):=by
 unfold Ea at h;simp only[za]at h;obtain⟨h1,h2,h3⟩:=h;obtain⟨p,hp⟩:=Option.isSome_iff_exists.1 h1;have ht:=hk.ty (gE (c:=p.1) (g:=p.2) hp);have e1:=ax h2 hk.sat;have e2:=ax h3 hk.sat;rw[LE.aO,LE.aw,LE.aQ]at e2;have e2:0<=((ρ y).ns.length:Int)-e.ev ρ+-1:=e2;rcases ht.form with ⟨h,h0⟩|⟨b,o,cp,h⟩
 ·have h0:(ρ y).ns=[]:=h0;rw[h0]at e2;simp at e2;omega
 ·exact⟨p.1,p.2,b,o,cp,hp,h,e1,by omega,ht⟩
theorem mf {b o l cp k:Nat}{v:AV}(h:v=.cN b o l cp):pf v k=.cu b (o+k):=by subst h;rfl
def Ri (cf:Cf)(t:TypeId)(x:SV)(f:Nat)(s:SS)(K:SV->SS->R):R:=match fq cf.P t f with
 |some (off,ft)=>bif Nat.beq (ae cf.P ft) 0 then .bad 40 s else (match x with
  |.v false [.cu b o]=>K (sc (.cu b (o+off))) s
  |.v false [.oB y e sz o]=>bif Ea s y e then K (sc (.oB y e sz (o+off))) s else .bad 41 s
  |.v false [.ref y]=>(match pI s.ty y with|some _=>K (sc (.vd y off)) s|none=>.bad 42 s)
  |.v false [.vd y o]=>(match pI s.ty y with|some _=>K (sc (.vd y (o+off))) s|none=>.bad 42 s)
  |_=>.bad 43 s)
 |none=>.bad 44 s
theorem CN {t:TypeId}{x f:Nat}{v:SV}{K:SV->SS->R}(ho:(af ops i).op=.fieldAddr t (.tmp x) f)(hg:(af ops i).guard=none)(hP:cf.P=c.P)(h:(Ri cf t v f s K).Ok)(hk:Ok c T G Γ ρ s)(hx:T.at x=v.den ρ):Lo c T G Γ ops i s ρ K:=by
 unfold Ri at h;rw[hP]at h;cases hf:fq c.P t f with
 |none=>rw[hf]at h;cases h
 |some p =>
  obtain⟨off,ft⟩:=p;rw[hf]at h;simp only at h;cases hz:Nat.beq (ae c.P ft) 0 with
  |true=>rw[hz]at h;cases h
  |false =>
   rw[hz]at h;simp only[cond_false]at h;split at h
   ·exact Lo.here hk h (bq.field hg ho hx hf hz)
   ·rename_i y e sz o;cases hi:Ea s y e with
    |false=>rw[hi]at h;cases h
    |true =>
     rw[hi]at h;obtain⟨cc,g,b,o',cp,_,h1,_⟩:=rB hi hk;have hx:T.at x=.cu b (o'+((e.ev ρ).toNat*sz+o)):=hx.trans (mf h1);refine Lo.here hk h ?_;have:=bq.field hg ho hx hf hz (P:=c.P) (n0:=c.n0) (nt:=c.nt) (hp:=c.hp) (nx:=c.nx) (G:=G);show bq _ _ _ _ _ _ _ _ _ (pf (ρ y).vv ((e.ev ρ).toNat*sz+(o+off)));rw[mf h1,show o'+((e.ev ρ).toNat*sz+(o+off))=o'+((e.ev ρ).toNat*sz+o)+off by omega];exact this
   ·rename_i y;cases hp:pI s.ty y with
    |none=>rw[hp]at h;cases h
    |some q =>
     rw[hp]at h;obtain⟨b,hb⟩:=uK (cc:=q.1) (g:=q.2) hk hp;have hx:T.at x=.cu b 0:=hx.trans hb;refine Lo.here hk h ?_;show bq _ _ _ _ _ _ _ _ _ (mH (ρ y).vv off);rw[hb];exact bq.field hg ho hx hf hz
   ·rename_i y o;cases hp:pI s.ty y with
    |none=>rw[hp]at h;cases h
    |some q =>
     rw[hp]at h;obtain⟨b,hb⟩:=uK (cc:=q.1) (g:=q.2) hk hp;have hx:T.at x=.cu b (0+o):=hx.trans (by show mH (ρ y).vv o=_;rw[hb];rfl);refine Lo.here hk h ?_;show bq _ _ _ _ _ _ _ _ _ (mH (ρ y).vv (o+off));rw[hb];have:=bq.field hg ho hx hf hz (P:=c.P) (n0:=c.n0) (nt:=c.nt) (hp:=c.hp) (nx:=c.nx) (G:=G);show bq _ _ _ _ _ _ _ _ _ (.cu b (0+(o+off)));rw[<-zbq];exact this
   ·cases h
def Rj (x:SV)(s:SS)(K:SV->SS->R):R:=match x with
 |.v false [.cu b o]=>K x s
 |.v false [.oB y e sz o]=>bif Ea s y e then K x s else .bad 41 s
 |.v false [.ref y]=>(match pI s.ty y with|some _=>K x s|none=>.bad 42 s)
 |.v false [.vd y o]=>(match pI s.ty y with|some _=>K x s|none=>.bad 42 s)
 |_=>.bad 45 s
theorem CO {x:Nat}{v:SV}{K:SV->SS->R}(ho:(af ops i).op=.nilCheck (.tmp x))(hg:(af ops i).guard=none)(h:(Rj v s K).Ok)(hk:Ok c T G Γ ρ s)(hx:T.at x=v.den ρ):Lo c T G Γ ops i s ρ K:=by
 unfold Rj at h;split at h
 ·exact Lo.here hk h (bq.nil hg ho hx)
 ·rename_i y e sz o;cases hi:Ea s y e with
  |false=>rw[hi]at h;cases h
  |true =>
   rw[hi]at h;obtain⟨cc,g,b,o',cp,_,h1,_⟩:=rB hi hk;have e1:(SV.v false [.oB y e sz o]).den ρ=.cu b (o'+((e.ev ρ).toNat*sz+o)):=mf h1;exact Lo.here hk h (by rw[e1];exact bq.nil hg ho (hx.trans e1))
 ·rename_i y;cases hp:pI s.ty y with
  |none=>rw[hp]at h;cases h
  |some q =>
   rw[hp]at h;obtain⟨b,hb⟩:=uK (cc:=q.1) (g:=q.2) hk hp;have e1:(SV.v false [.ref y]).den ρ=.cu b 0:=hb;exact Lo.here hk h (by rw[e1];exact bq.nil hg ho (hx.trans e1))
 ·rename_i y o;cases hp:pI s.ty y with
  |none=>rw[hp]at h;cases h
  |some q =>
   rw[hp]at h;obtain⟨b,hb⟩:=uK (cc:=q.1) (g:=q.2) hk hp;have e1:(SV.v false [.vd y o]).den ρ=.cu b (0+o):=by show mH (ρ y).vv o=_;rw[hb];rfl
   exact Lo.here hk h (by rw[e1];exact bq.nil hg ho (hx.trans e1))
 ·cases h
def Rm (cf:Cf)(t:TypeId)(x:SV)(e:SV)(s:SS)(K:SV->SS->R):R:=match x,e with
 |.v false [.ref y],.v false [.int kd e]=>(match py s.ty y,cf.P.underlying t with
  |some (cc,g),some (.slice el)=>bif Nat.beq el (cf.Φ.ty cc)&&((cf.P.info? el).isSome&&Ea s y e)then K (sc (.oB y e (ae cf.P el) 0)) s else .bad 46 s
  |_,_=>.bad 47 s)
 |.v false [.cu b o],.v false [.int kd e]=>(match cf.P.underlying t,dU e with
  |some (.array n el),some (.ofNat k)=>bif (cf.P.info? el).isSome&&Nat.blt k n then K (sc (.cu b (o+k*ae cf.P el))) s else .bad 48 s
  |_,_=>.bad 49 s)
 |.v false [.wE b n],.v false [.int kd e]=>(match cf.P.underlying t,dU e with
  |some (.slice el),some (.ofNat k)=>bif (cf.P.info? el).isSome&&Nat.blt k n then K (sc (.cu b (0+k*ae cf.P el))) s else .bad 54 s
  |_,_=>.bad 55 s)
 |_,_=>.bad 50 s
theorem bq.IH {P:Program}{n0 nt:Nat}{hp:Tr AO}{nx:Pz}{t e:TypeId}{x b o j n:Nat}{y:Operand}{kd:IntKind}(hg:(af ops i).guard=none)(ho:(af ops i).op=.indexAddr t (.tmp x) y)(hx:T.at x=.cu b o)(hy:bH nt T y (.int kd (.ofNat j)))(hu:P.underlying t=some (.array n e))
  (hi:(P.info? e).isSome=true) (hlt:j<n):bq P ops n0 nt i T hp nx G (.cu b (o+j*ae P e)):=by
 refine cY hg fun B w0 ι a w hs=>?_;obtain⟨k,hk⟩:=Option.isSome_iff_exists.1 hi;simp only[execOp,ho];rw[jJ hs x hx,bH.at hy hs,er];simp only[ak,Sem.run_bind];rw[vV hu ⟨k,hk⟩ hlt];simp
theorem bq.CP {P:Program}{n0 nt:Nat}{hp:Tr AO}{nx:Pz}{t e:TypeId}{x b o len cap j n:Nat}{y:Operand}{kd:IntKind}(hg:(af ops i).guard=none)(ho:(af ops i).op=.indexAddr t (.tmp x) y)(hx:T.at x=.cN b o len cap)(hy:bH nt T y (.int kd (.ofNat j)))(hu:P.underlying t=some (.slice e))
  (hi:(P.info? e).isSome=true) (hn:ae P e=n) (hlt:j<len):bq P ops n0 nt i T hp nx G (.cu b (o+j*n)):=by
 refine cY hg fun B w0 ι a w hs=>?_;obtain⟨k,hk⟩:=Option.isSome_iff_exists.1 hi;simp only[execOp,ho];rw[jJ hs x hx,bH.at hy hs,er];simp only[ak,Sem.run_bind];rw[mY (by omega),qY hu ⟨k,hk⟩ hlt,hn];simp
theorem CQ {t:TypeId}{x:Nat}{y:Operand}{v u:SV}{K:SV->SS->R}(ho:(af ops i).op=.indexAddr t (.tmp x) y)(hg:(af ops i).guard=none)(hP:cf.P=c.P)(hΦ:cf.Φ=c.Φ)(h:(Rm cf t v u s K).Ok)(hk:Ok c T G Γ ρ s)(hx:T.at x=v.den ρ)(hy:bH c.nt T y (u.den ρ)):Lo c T G Γ ops i s ρ K:=by
 unfold Rm at h;rw[hP,hΦ]at h;split at h
 ·rename_i y kd e;split at h
  ·rename_i cc g el hf hu;cases hb:(Nat.beq el (c.Φ.ty cc)&&((c.P.info? el).isSome&&Ea s y e))with
   |false=>rw[hb]at h;cases h
   |true =>
    rw[hb]at h;simp only[za]at hb;obtain⟨h1,h2,h3⟩:=hb;obtain⟨cc',g',b,o,cp,q1,q2,q3,q4,q5⟩:=rB h3 hk;refine Lo.here hk h ?_;show bq _ _ _ _ _ _ _ _ _ (pf (ρ y).vv ((e.ev ρ).toNat*ae c.P el+0));rw[mf q2,zbu];refine bq.CP hg ho (hx.trans q2) ?_ hu h2 rfl q4 (kd:=kd);have:(SV.v false [.int kd e]).den ρ=.int kd (.ofNat (e.ev ρ).toNat):=by show AV.int kd (e.ev ρ)=_;congr 1;exact (zbp q3).symm
    rw[<-this];exact hy
  ·cases h
 ·rename_i b o kd e;split at h
  ·rename_i n el k hu hc;cases hb:((c.P.info? el).isSome&&Nat.blt k n)with
   |false=>rw[hb]at h;cases h
   |true =>
    rw[hb]at h;rw[za]at hb;refine Lo.here hk h ?_;refine bq.IH hg ho hx ?_ hu hb.1 (av hb.2) (kd:=kd);have:(SV.v false [.int kd e]).den ρ=.int kd (.ofNat k):=by show AV.int kd (e.ev ρ)=_;rw[fX hc ρ]
    rw[<-this];exact hy
  ·cases h
 ·rename_i b n kd e;split at h
  ·rename_i el k hu hc;cases hb:((c.P.info? el).isSome&&Nat.blt k n)with
   |false=>rw[hb]at h;cases h
   |true =>
    rw[hb]at h;rw[za]at hb;refine Lo.here hk h ?_;refine bq.CP hg ho (hx.trans (show _=AV.cN (ρ b).nn 0 n n from rfl)) ?_ hu hb.1 rfl (av hb.2) (kd:=kd);have:(SV.v false [.int kd e]).den ρ=.int kd (.ofNat k):=by show AV.int kd (e.ev ρ)=_;rw[fX hc ρ]
    rw[<-this];exact hy
  ·cases h
 ·cases h
def A3:List (Nat×LE×LE)->Nat->LE->Option LE
 | [],_,_=>none
 |p::l,y,e=>bif Nat.beq p.1 y&&p.2.1.same e then some p.2.2 else A3 l y e
theorem tk:∀{l:List (Nat×LE×LE)}{y:Nat}{e w:LE},A3 l y e=some w->∃e',(y,e',w)∈l/\∀ρ,e'.ev ρ=e.ev ρ
 | [],_,_,_,h=>by cases h
 |p::l,y,e,w,h=>by
  have h:(bif Nat.beq p.1 y&&p.2.1.same e then some p.2.2 else A3 l y e)=some w:=h;cases hb:(Nat.beq p.1 y&&p.2.1.same e)with
  |true =>
   rw[hb]at h;cases h;rw[za]at hb;have:=zab hb.1;subst this;exact⟨p.2.1,zac ..,LE.aN hb.2⟩
  |false=>rw[hb]at h;obtain⟨e',h1,h2⟩:=tk h;exact⟨e',zaa _ h1,h2⟩
def yp (s:SS)(y:Nat)(e:LE):Option LE:=match dU e with
 |some k=>bif nF k then some (.k 0)else A3 s.pw y e
 |none=>A3 s.pw y e
theorem yq {y:Nat}{e w:LE}(h:yp s y e=some w)(hs:Sat ρ s):(((ρ y).ns.take (e.ev ρ).toNat).sum:Int)+e.ev ρ=w.ev ρ:=by
 have key:A3 s.pw y e=some w->(((ρ y).ns.take (e.ev ρ).toNat).sum:Int)+e.ev ρ=w.ev ρ:=fun h=>by
  obtain⟨e',h1,h2⟩:=tk h;have:=(hs.pw _ h1).2;have this:((((ρ y).ns.take (e'.ev ρ).toNat).sum:Nat):Int)+e'.ev ρ=w.ev ρ:=this;rw[h2 ρ]at this;exact this
 unfold yp at h;cases hc:dU e with
 |none=>rw[hc]at h;exact key h
 |some k =>
  rw[hc]at h;simp only at h;cases hz:nF k with
  |false=>rw[hz]at h;exact key h
  |true =>
   rw[hz]at h;cases h;have:=fX hc ρ;rw[ru hz]at this;rw[this,LE.bz];simp
def yr (cf:Cf)(cc g:Nat)(e:LE)(off n:Nat)(ag:Bool)(bnd:LE)(s:SS)(K:SV->SS->R)(eq:Bool:=false):R :=
 bif Nat.ble (off+n) (cf.Φ.ks cc).length&&(bJ s.nx g&&(Ke s.nx (ghost s.gs g)&&(e.lt s.nx&&bnd.lt s.nx)))then
  OX cf g (ghost s.gs g) e (((cf.Φ.ks cc).drop off).take n) (fun xs os s=>K (.v ag xs) (bif eq then aP (aP s (bnd.sub (iG os))) ((iG os).sub bnd)else bif os.isEmpty then s else aP s (bnd.sub (iG os)))) s
 else .bad 51 s
def whole (cf:Cf)(cc off n:Nat):Bool:=cf.Φ.raw cc&&(Nat.beq off 0&&Nat.beq n (cf.Φ.ks cc).length)
def Tz (cf:Cf)(y:Nat)(e:LE)(off n:Nat)(ag:Bool)(cc g:Nat)(s:SS)(K:SV->SS->R):R :=
 bif cf.Φ.gv cc then yr cf cc g e off n ag (.k WU) s K
 else bif Nat.blt y s.nx&&(e.lt s.nx&&bJ s.nx g)then (match yp s y e with
  |some w=>bif w.lt s.nx then fresh s fun m s=>yr cf cc g e off n ag (.a (.n m)) (qF (aP s (((((LE.a (.wt y)).sub w).sub (.a (.n m))).bk (-1)))) (y,e.bk 1,(w.add (.a (.n m))).bk 1)) K (whole cf cc off n)else .bad 52 s
  |none=>fresh s fun m s=>yr cf cc g e off n ag (.a (.n m)) (aP s (((LE.a (.wt y)).sub (.a (.n m))).bk (-1))) K (whole cf cc off n))else .bad 53 s
def O4:List c6->Nat->Nat->LE->Nat->Option SC
 | [],_,_,_,_=>none
 |.el y' c' e' o' v::l,y,cc,e,o=>bif Nat.beq y' y&&(Nat.beq c' cc&&(Nat.beq o' o&&e'.same e))then some v else O4 l y cc e o
 |_::l,y,cc,e,o=>O4 l y cc e o
def Rn (l:List c6)(y cc:Nat)(e:LE):Nat->Nat->Option (List SC)
 |_,0=>some []
 |o,n+1=>match O4 l y cc e o,Rn l y cc e (o+1) n with|some x,some xs=>some (x::xs)|_,_=>none
def rD (s:SS)(y cc:Nat)(e:LE):Nat->List SC->SS
 |_,[]=>s
 |o,x::xs=>aY (rD s y cc e (o+1) xs) (.el y cc e o x)
def CR (cf:Cf)(y:Nat)(e:LE)(off n:Nat)(ag:Bool)(cc g:Nat)(s:SS)(K:SV->SS->R):R :=
 bif cf.Φ.raw cc&&Nat.blt 0 n then (match Rn s.ty y cc e off n with
  |some xs=>K (.v ag xs) s
  |none=>bif Nat.blt y s.nx&&e.lt s.nx then Tz cf y e off n ag cc g s fun v s'=>(match v with|.v ag' xs=>K (.v ag' xs) (rD s' y cc e off xs)|v=>K v s')else .bad 66 s)
 else Tz cf y e off n ag cc g s K
def Ro (cf:Cf)(t:TypeId)(x:SV)(s:SS)(K:SV->SS->R):R:=match x with
 |.v false [.cu b o]=>(match ic s.os b with
  |some (_,cs)=>bif dZ cf.P t then (bif Nat.ble (o+ae cf.P t) cs.length then K (.v true ((cs.drop o).take (ae cf.P t))) s else .bad 54 s)
   else bif cD cf.P t then (match cs[o]? with|some x=>K (sc x) s|none=>.bad 55 s)else .bad 56 s
  |none=>.bad 57 s)
 |.v false [.oB y e sz o]=>(match py s.ty y with
  |some (cc,g)=>bif Ea s y e&&Nat.beq sz (ae cf.P (cf.Φ.ty cc))then
   (bif dZ cf.P t then CR cf y e o (ae cf.P t) true cc g s K else bif cD cf.P t then CR cf y e o 1 false cc g s K else .bad 56 s)else .bad 58 s
  |none=>.bad 59 s)
 |.v false [.ref y]=>(match pI s.ty y with
  |some (cc,g)=>bif cf.Φ.gv cc then (bif dZ cf.P t then yr cf cc g (.k 0) 0 (ae cf.P t) true (.k WU) s K else bif cD cf.P t then yr cf cc g (.k 0) 0 1 false (.k WU) s K else .bad 56 s)else .bad 62 s
  |none=>.bad 60 s)
 |.v false [.vd y o]=>(match pI s.ty y with
  |some (cc,g)=>bif cf.Φ.gv cc then (bif dZ cf.P t then yr cf cc g (.k 0) o (ae cf.P t) true (.k WU) s K else bif cD cf.P t then yr cf cc g (.k 0) o 1 false (.k WU) s K else .bad 56 s)else .bad 62 s
  |none=>.bad 60 s)
 |_=>.bad 61 s
theorem Lj {Φ:Forms}{d:Gd}{g j:Nat}{ks:List K2}{cs:List AV}{fs:List TF}(h:ia Φ d g j ks cs fs)(off n:Nat):∃f2,ia Φ d g j ((ks.drop off).take n) ((cs.drop off).take n) f2/\iO Φ f2<=iO Φ fs/\∀f∈f2,f∈fs:=by
 have hk:ks=ks.take off++((ks.drop off).take n++(ks.drop off).drop n):=by rw[zdg,zdg]
 rw[hk]at h;obtain⟨f1,f',e1,w1,w2⟩:=ia.split h;obtain⟨f2,f3,e2,w3,w4⟩:=ia.split w2;have hl:=h.len;rw[<-hk]at hl;refine⟨f2,?_,?_,?_⟩
 ·have e3:(List.drop (List.take off ks).length cs).take (List.take n (List.drop off ks)).length=(cs.drop off).take n:=by
    rw[zaf,zaf,zas];by_cases ho:off<=ks.length
    ·rw[zcl ho];by_cases hn:n<=ks.length-off
     ·rw[zcl hn]
     ·rw[Nat.min_eq_right (by omega),zbz (by rw[zas];omega),zbz (by rw[zas];omega)]
    ·rw[Nat.min_eq_right (by omega),zcg (by omega),zcg (by omega)];simp
  rw[<-e3];exact w3
 ·rw[e1,e2,iE,iE];omega
 ·intro f hf;rw[e1,e2];simp[hf]
theorem Lk {Φ:Forms}{d:Gd}{g j:Nat}{ks:List K2}{cs:List AV}{fs:List TF}(h:ia Φ d g j ks cs fs):ia Φ d g j ((ks.drop 0).take ks.length) ((cs.drop 0).take ks.length) fs:=by
 have:=h.len;rw[zc,zc,zbz (zad _),zbz (by omega)];exact h
theorem CS {cc g J m:Nat}{e bnd:LE}{off n:Nat}{ag eq:Bool}{K:SV->SS->R}{cells:List AV}(hΦ:cf.Φ=c.Φ)(h:(yr cf cc g e off n ag bnd s K eq).Ok)(hk:Ok c T G Γ ρ s)(he:0<=e.ev ρ/\J=(e.ev ρ).toNat)(hE:eT c.P c.Φ G Γ m cc (ig ρ g) J cells)(hb:(m:Int)<=bnd.ev ρ)
  (hq:eq=true->off=0/\n=(c.Φ.ks cc).length/\bnd.ev ρ=(m:Int)/\∃fs,ia c.Φ (Γ.gd (ig ρ g)) (ig ρ g) J (c.Φ.ks cc) cells fs/\iO c.Φ fs=m/\∀f∈fs,fF c.P c.Φ G Γ f:=by exact fun h=>by cases h) :
  fI c T G Γ s ρ fun ρ' s'=>∃xs,(K (.v ag xs) s').Ok/\aB ρ' xs=(cells.drop off).take n:=by
 unfold yr at h;rw[hΦ]at h;cases hc:(Nat.ble (off+n) (c.Φ.ks cc).length&&(bJ s.nx g&&(Ke s.nx (ghost s.gs g)&&(e.lt s.nx&&bnd.lt s.nx))))with
 |false=>rw[hc]at h;cases h
 |true =>
  rw[hc]at h;simp only[za]at hc;obtain⟨c1,c2,c3,c4,c5⟩:=hc
  obtain⟨f2,m1,m2,m3,m4⟩:∃f2,ia c.Φ (Γ.gd (ig ρ g)) (ig ρ g) J (((c.Φ.ks cc).drop off).take n) ((cells.drop off).take n) f2/\iO c.Φ f2<=m/\(∀f∈f2,fF c.P c.Φ G Γ f)/\(eq=true->bnd.ev ρ=(iO c.Φ f2:Int)):=by
   cases hqe:eq with
   |true =>
    obtain⟨q1,q2,q3,fs,w1,w2,w3⟩:=hq hqe;subst q1 q2;exact⟨fs,Lk w1,zdz w2,w3,fun _=>by rw[q3,w2]⟩
   |false =>
    obtain⟨fs,w1,w2,w3⟩:=hE;obtain⟨f2,m1,m2,m3⟩:=Lj w1 off n;exact⟨f2,m1,by omega,fun f hf=>w3 f (m3 f hf),fun h=>by cases h⟩
  refine (D7 hΦ (J:=J) h hk c2 (fun dv hd=>?_) ⟨c4,he⟩ m1 m3).bind fun ρ1 s1 a1 n1 o1 hh=>?_
  ·rw[hd]at c3;exact⟨av c3,cR hd hk⟩
  ·obtain⟨xs,os,g1,g2,g3,g4⟩:=hh;cases hqe:eq with
   |true =>
    rw[hqe]at g1;have e0:bnd.ev ρ1=(iG os).ev ρ1:=by rw[yn,LE.bG a1 c5,g4,m4 hqe]
    exact fI.mk (s':=Rd.aP (Rd.aP s1 (bnd.sub (iG os))) ((iG os).sub bnd)) (cM.refl _ _) (zad _) ((o1.aP (by rw[LE.aw];omega)).aP (by rw[LE.aw];omega)) ⟨xs,g1,g2⟩
   |false =>
   rw[hqe]at g1;cases hos:os.isEmpty with
   |true=>rw[hos]at g1;exact fI.here o1 ⟨xs,g1,g2⟩
   |false =>
    rw[hos]at g1;refine fI.mk (s':=Rd.aP s1 (bnd.sub (iG os))) (cM.refl _ _) (zad _) (o1.aP ?_) ⟨xs,g1,g2⟩;rw[LE.aw,yn,LE.bG a1 c5,g4];omega
theorem II {y cc g:Nat}{e:LE}{off n:Nat}{ag:Bool}{K:SV->SS->R}(hP:cf.P=c.P)(hΦ:cf.Φ=c.Φ)(h:(Tz cf y e off n ag cc g s K).Ok)(hk:Ok c T G Γ ρ s)(he:0<=e.ev ρ)(hlt:(e.ev ρ).toNat<(ρ y).ns.length)(ht:fF c.P c.Φ G Γ (.sl (ρ y).vv cc (ig ρ g) (ρ y).ns))(hfsl:py s.ty y=some (cc,g)) :
  fI c T G Γ s ρ fun ρ' s'=>∃xs b o cap kd el size C,(K (.v ag xs) s').Ok/\(ρ y).vv=.cN b o (ρ y).ns.length cap/\G b=some (.cells kd el size C)/\o+(e.ev ρ).toNat*ae c.P (c.Φ.ty cc)+ae c.P (c.Φ.ty cc)<=C.length/\(c.Φ.ks cc).length=ae c.P (c.Φ.ty cc)/\off+n<=(c.Φ.ks cc).length /\
   aB ρ' xs=((((C.drop (o+(e.ev ρ).toNat*ae c.P (c.Φ.ty cc))).take (ae c.P (c.Φ.ty cc))).drop off).take n):=by
 obtain⟨m,hm⟩:∃m,(ρ y).ns[(e.ev ρ).toNat]?=some m:=⟨_,zap hlt⟩;obtain⟨b,o,cap,kd,el,size,C,q1,q2,q3,q4,q5⟩:=ht.VY hk.q.ht hm
 have hlen:(c.Φ.ks cc).length=ae c.P (c.Φ.ty cc):=by
  obtain⟨fs,w1,_⟩:=q4;rw[<-w1.len,zaf,zas];omega
 have fin:∀{ρ1:aZ} {s1:SS} {bnd:LE} {eq:Bool},cM s.nx ρ ρ1->s.nx<=s1.nx->Ok c T G Γ ρ1 s1->(yr cf cc g e off n ag bnd s1 K eq).Ok->bJ s.nx g=true->e.lt s.nx=true->(m:Int)<=bnd.ev ρ1->(eq=true->whole cf cc off n=true/\bnd.ev ρ1=(m:Int))->fI c T G Γ s ρ fun ρ' s'=>∃xs b o cap kd el size C,(K (.v ag xs) s').Ok/\(ρ y).vv=.cN b o (ρ y).ns.length cap/\G b=some (.cells kd el size C)/\o+(e.ev ρ).toNat*ae c.P (c.Φ.ty cc)+ae c.P (c.Φ.ty cc)<=C.length/\(c.Φ.ks cc).length=ae c.P (c.Φ.ty cc)/\off+n<=(c.Φ.ks cc).length /\
   aB ρ' xs=((((C.drop (o+(e.ev ρ).toNat*ae c.P (c.Φ.ty cc))).take (ae c.P (c.Φ.ty cc))).drop off).take n):=fun {ρ1 s1 bnd eq} a1 n1 o1 hp hg' hel hb hbe=>by
  have hle:off+n<=(c.Φ.ks cc).length:=by
   unfold yr at hp;rw[hΦ]at hp;cases hc:Nat.ble (off+n) (c.Φ.ks cc).length with
   |false=>rw[hc]at hp;cases hp
   |true=>exact aK hc
  obtain⟨ρ2,s2,a2,n2,o2,xs,g1,g2⟩:=CS hΦ hp o1 (J:=(e.ev ρ).toNat) (by rw[LE.bG a1 hel];exact⟨he,rfl⟩) (by rw[ba a1 hg'];exact q4) hb (fun hq=>by
   obtain⟨w1,w2⟩:=hbe hq;unfold whole at w1;rw[hΦ]at w1;simp only[za]at w1;obtain⟨w1,w3,w4⟩:=w1;rw[ba a1 hg']
   exact⟨ai w3,ai w4,w2,q5 w1⟩)
  exact⟨ρ2,s2,a1.trans a2 n1,by omega,o2,xs,b,o,cap,kd,el,size,C,g1,q1,q2,q3,hlen,hle,g2⟩
 unfold Tz at h;rw[hΦ]at h;cases hu:c.Φ.gv cc with
 |true =>
  rw[hu]at h;have h:(yr cf cc g e off n ag (.k WU) s K).Ok:=h
  have hgl:bJ s.nx g=true/\e.lt s.nx=true:=by
   have hp:=h;unfold yr at hp;cases hc:(Nat.ble (off+n) (cf.Φ.ks cc).length&&(bJ s.nx g&&(Ke s.nx (ghost s.gs g)&&(e.lt s.nx&&(LE.k WU).lt s.nx))))with
   |false=>rw[hc]at hp;cases hp
   |true=>simp only[za]at hc;exact⟨hc.2.1,hc.2.2.2.1⟩
  have hmw:m=WU:=by
   obtain⟨_,ht⟩:=ht;generalize (ρ y).vv=vv at ht;rcases ht with ⟨_,h0⟩|⟨h0,hr⟩|⟨b',cap',L,size',C',r1,r2,r3,_⟩
   ·rw[h0]at hm;simp at hm
   ·generalize (ρ y).ns=nn at hr hm;cases hr with
    |nil=>simp at hm
    |emp _=>simp at hm
    |aS _ hu' _ _=>rw[hu]at hu';cases hu'
   ·obtain⟨_,d2,_⟩:=hk.q.ht.b _ _ r2;refine d2 hu m ?_;rw[r3]at hm;exact zds (zba hm)
  exact fin (cM.refl _ _) (zad _) hk h hgl.1 hgl.2 (by rw[LE.bz,hmw];exact zch _) (fun h=>by cases h)
 |false =>
  rw[hu]at h;simp only[cond_false]at h;cases hc:(Nat.blt y s.nx&&(e.lt s.nx&&bJ s.nx g))with
  |false=>rw[hc]at h;cases h
  |true =>
   rw[hc]at h;simp only[za]at hc;obtain⟨hy,hel,hgl⟩:=hc;have hy:=av hy;simp only[cond_true]at h;have hsum:((ρ y).ns.take ((e.ev ρ).toNat+1)).sum=((ρ y).ns.take (e.ev ρ).toNat).sum+m:=by rw[List.take_add_one,hm];simp
   have htk:∀(l:List Nat) (k:Nat),(l.take k).sum<=l.sum:=by
    intro l
    induction l with
    |nil=>intro k;simp
    |cons a l ih=>intro k;cases k with
     |zero=>simp
     |succ k=>have:=ih k;simp;omega
   have htot:=htk (ρ y).ns ((e.ev ρ).toNat+1)
   have hwt:∀{ρ1:aZ},cM s.nx ρ ρ1->(LE.a (.wt y)).ev ρ1=(((ρ y).ns.sum+(ρ y).ns.length:Nat):Int):=fun {ρ1} a1=>by
    rw[LE.aQ];show (((ρ1 y).ns.sum+(ρ1 y).ns.length:Nat):Int)=_;rw[a1 y hy]
   have xC:∀{ρ1:aZ} {k:Nat},ρ1 k=.n m->(LE.a (.n k)).ev ρ1=(m:Int):=fun {ρ1 k} e1=>by rw[LE.aQ];show ((ρ1 k).nn:Int)=_;rw[e1];rfl
   cases hw:yp s y e with
   |none =>
    rw[hw]at h;obtain⟨h1,h2,h3,h4⟩:=aA h hk (.n m);have hok:=h3.aP (e:=((LE.a (.wt y)).sub (.a (.n s.nx))).bk (-1)) (by rw[LE.aO,LE.aw,hwt h2,xC h4];omega);exact fin h2 (zan _) hok h1 hgl hel (by rw[xC h4];exact zch _) (fun hq=>⟨hq,xC h4⟩)
   |some w =>
    rw[hw]at h;simp only at h;cases hwl:w.lt s.nx with
    |false=>rw[hwl]at h;cases h
    |true =>
     rw[hwl]at h;simp only[cond_true]at h;obtain⟨h1,h2,h3,h4⟩:=aA h hk (.n m);have hpw:=yq hw hk.sat;have hw2:=LE.bG h2 hwl
     have hok:=(h3.aP (e:=((((LE.a (.wt y)).sub w).sub (.a (.n s.nx))).bk (-1))) (by rw[LE.aO,LE.aw,LE.aw,hwt h2,xC h4,hw2];omega)).qF (p:=(y,e.bk 1,(w.add (.a (.n s.nx))).bk 1)) (by
      show 0<=(e.bk 1).ev _/\((((ρ.up s.nx (.n m) y).ns.take ((e.bk 1).ev _).toNat).sum:Nat):Int)+(e.bk 1).ev _=((w.add (.a (.n s.nx))).bk 1).ev _;rw[LE.aO,LE.bG h2 hel,LE.aO,LE.ib,xC h4,hw2,h2 y hy,show (e.ev ρ+1).toNat=(e.ev ρ).toNat+1 by omega,hsum];refine⟨by omega,?_⟩
      omega)
     exact fin h2 (zan _) hok h1 hgl hel (by rw[xC h4];exact zch _) (fun hq=>⟨hq,xC h4⟩)
theorem mg:∀{l:List c6}{y cc o:Nat}{e:LE}{v:SC},O4 l y cc e o=some v->∃e',c6.el y cc e' o v∈l/\∀ρ,e'.ev ρ=e.ev ρ
 | [],_,_,_,_,_,h=>by cases h
 |.el y' c' e' o' v'::l,y,cc,o,e,v,h=>by
  have h:(bif Nat.beq y' y&&(Nat.beq c' cc&&(Nat.beq o' o&&e'.same e))then some v' else O4 l y cc e o)=some v:=h;cases hb:(Nat.beq y' y&&(Nat.beq c' cc&&(Nat.beq o' o&&e'.same e)))with
  |true =>
   rw[hb]at h;cases h;simp only[za]at hb;have h1:=ai hb.1;have h2:=ai hb.2.1;have h3:=ai hb.2.2.1;subst h1 h2 h3;exact⟨e',zac ..,LE.aN hb.2.2.2⟩
  |false=>rw[hb]at h;obtain⟨e2,h1,h2⟩:=mg h;exact⟨e2,zaa _ h1,h2⟩
 |.sl _ _ _::l,_,_,_,_,_,h=>by obtain⟨e2,h1,h2⟩:=mg (l:=l) h;exact⟨e2,zaa _ h1,h2⟩
 |.pt _ _ _::l,_,_,_,_,_,h=>by obtain⟨e2,h1,h2⟩:=mg (l:=l) h;exact⟨e2,zaa _ h1,h2⟩
 |.mp _ _ _::l,_,_,_,_,_,h=>by obtain⟨e2,h1,h2⟩:=mg (l:=l) h;exact⟨e2,zaa _ h1,h2⟩
 |.sj _ _ _::l,_,_,_,_,_,h=>by obtain⟨e2,h1,h2⟩:=mg (l:=l) h;exact⟨e2,zaa _ h1,h2⟩
theorem IJ {y cc b o l cap size sz:Nat}{el:TypeId}{C:List AV}{e:LE}(hk:Ok c T G Γ ρ s)(hsz:ae c.P (c.Φ.ty cc)=sz)(hv:(ρ y).vv=.cN b o l cap)(hG:G b=some (.cells .raw el size C)):∀{n off:Nat}{xs:List SC},Rn s.ty y cc e off n=some xs->xs.length=n/\(∀k,k<n->off+k<sz/\C[o+(e.ev ρ).toNat*sz+(off+k)]?=(aB ρ xs)[k]?)
 |0,off,xs,h=>by cases h;exact⟨rfl,fun k hk=>absurd hk (by omega)⟩
 |n+1,off,xs,h=>by
  unfold Rn at h;split at h
  ·rename_i x xs' h1 h2;cases h;obtain⟨i1,i2⟩:=IJ hk hsz hv hG h2;obtain⟨e',m1,m2⟩:=mg h1;obtain⟨b',o',l',cap',el',size',C',t1,t2,t3,t4,t5,t6⟩:=hk.ty m1;have t1:(ρ y).vv=.cN b' o' l' cap':=t1;rw[hv]at t1;cases t1;rw[hG]at t3;cases t3;rw[hsz]at t5 t6;have t6:C[o+(e'.ev ρ).toNat*sz+off]?=some (x.den ρ):=t6;rw[m2 ρ]at t6;refine⟨by simp[i1],fun k hk=>?_⟩;cases k with
   |zero=>exact⟨t5,t6⟩
   |succ k =>
    obtain⟨a1,a2⟩:=i2 k (by omega);refine⟨by omega,?_⟩;rw[show off+(k+1)=off+1+k by omega,a2];rfl
  ·cases h
theorem wI (s:SS)(y cc:Nat)(e:LE):∀(o:Nat)(xs:List SC),(rD s y cc e o xs).nx=s.nx
 |_,[]=>rfl
 |o,x::xs=>wI s y cc e (o+1) xs
theorem wJ {y cc b o l cap size sz:Nat}{el:TypeId}{C:List AV}{e:LE}(hsz:ae c.P (c.Φ.ty cc)=sz)(hv:(ρ y).vv=.cN b o l cap)(hG:G b=some (.cells .raw el size C))(hlt:(e.ev ρ).toNat<l)(hle:o+l*sz<=C.length):∀{xs:List SC}{off:Nat},Ok c T G Γ ρ s->(∀k,k<xs.length->off+k<sz/\C[o+(e.ev ρ).toNat*sz+(off+k)]?=(aB ρ xs)[k]?)->Ok c T G Γ ρ (rD s y cc e off xs)
 | [],off,hk,_=>hk
 |x::xs,off,hk,h=>by
  refine (wJ hsz hv hG hlt hle hk fun k hkl=>?_).aY ?_
  ·obtain⟨a1,a2⟩:=h (k+1) (by simp;omega);refine⟨by omega,?_⟩;rw[show off+1+k=off+(k+1) by omega,a2];rfl
  ·obtain⟨a1,a2⟩:=h 0 (by simp);refine⟨b,o,l,cap,el,size,C,hv,hlt,hG,by rw[hsz];exact hle,by rw[hsz];omega,?_⟩;rw[hsz];exact a2
theorem Eb {y cc g:Nat}{e:LE}{off n:Nat}{ag:Bool}{K:SV->SS->R}(hP:cf.P=c.P)(hΦ:cf.Φ=c.Φ)(h:(CR cf y e off n ag cc g s K).Ok)(hk:Ok c T G Γ ρ s)(he:0<=e.ev ρ)(hlt:(e.ev ρ).toNat<(ρ y).ns.length)(ht:fF c.P c.Φ G Γ (.sl (ρ y).vv cc (ig ρ g) (ρ y).ns))(hfsl:py s.ty y=some (cc,g)) :
  fI c T G Γ s ρ fun ρ' s'=>∃xs b o cap kd el size C,(K (.v ag xs) s').Ok/\(ρ y).vv=.cN b o (ρ y).ns.length cap/\G b=some (.cells kd el size C)/\o+(e.ev ρ).toNat*ae c.P (c.Φ.ty cc)+ae c.P (c.Φ.ty cc)<=C.length/\(c.Φ.ks cc).length=ae c.P (c.Φ.ty cc)/\off+n<=(c.Φ.ks cc).length /\
   aB ρ' xs=((((C.drop (o+(e.ev ρ).toNat*ae c.P (c.Φ.ty cc))).take (ae c.P (c.Φ.ty cc))).drop off).take n):=by
 unfold CR at h;rw[hΦ]at h;cases hr:(c.Φ.raw cc&&Nat.blt 0 n)with
 |false=>rw[hr]at h;exact II hP hΦ h hk he hlt ht hfsl
 |true =>
  rw[hr]at h;simp only[cond_true]at h;rw[za]at hr;have hn:=av hr.2
  -- the block came in
  obtain⟨b,o,cap,el,size,C,v1,v2,v3,v4,v5⟩:∃b o cap el size C,(ρ y).vv=.cN b o (ρ y).ns.length cap/\G b=some (.cells .raw el size C)/\o+(ρ y).ns.length*ae c.P (c.Φ.ty cc)<=C.length/\o+(e.ev ρ).toNat*ae c.P (c.Φ.ty cc)+ae c.P (c.Φ.ty cc)<=C.length/\(c.Φ.ks cc).length=ae c.P (c.Φ.ty cc):=by
   obtain⟨_,ht⟩:=ht;generalize (ρ y).vv=vv at ht;generalize (ρ y).ns=nn at ht hlt
   have hmul:(e.ev ρ).toNat*ae c.P (c.Φ.ty cc)+ae c.P (c.Φ.ty cc)<=nn.length*ae c.P (c.Φ.ty cc):=by
    have:((e.ev ρ).toNat+1)*ae c.P (c.Φ.ty cc)<=nn.length*ae c.P (c.Φ.ty cc):=zae _ hlt;rwa[zax]at this
   rcases ht with ⟨_,h0⟩|⟨_,hr⟩|⟨b',cap',L,size',C',r1,r2,r3,_⟩
   ·rw[h0]at hlt;simp at hlt
   ·cases hr with
    |nil=>simp at hlt
    |emp _=>simp at hlt
    |@aS b o cap size _ el C _ hb hu hl h =>
     have hel:=h _ _ (zap hlt);refine⟨b,o,cap,el,size,C,rfl,hb,hl,by omega,?_⟩;cases hel with
     |mk fs hw _ _ _ _ _=>rw[<-(hw 0).len,zaf,zas];omega
   ·have:=(hk.q.ht.b _ _ r2).1.2;rw[hr.1]at this;cases this
  cases hel:Rn s.ty y cc e off n with
  |some xs =>
   rw[hel]at h;obtain⟨i1,i2⟩:=IJ hk rfl v1 v2 hel;have hle:off+n<=ae c.P (c.Φ.ty cc):=by have:=(i2 (n-1) (by omega)).1;omega
   refine fI.here hk ⟨xs,b,o,cap,.raw,el,size,C,h,v1,v2,v4,v5,by rw[v5];exact hle,?_⟩;apply zdh;intro k;by_cases hkn:k<n
   ·rw[<-(i2 k hkn).2,zbd hkn,zbb,zbd (by omega),zbb]
   ·rw[zbr (by simp[aB];omega),zbr (by rw[zaf];omega)]
  |none =>
   rw[hel]at h;simp only at h;cases Ll:(Nat.blt y s.nx&&e.lt s.nx)with
   |false=>rw[Ll]at h;cases h
   |true =>
    rw[Ll]at h;simp only[cond_true]at h;rw[za]at Ll;obtain⟨ρ',s',a,n',o',xs,b2,o2,cap2,kd2,el2,size2,C2,k1,k2,k3,k4,k5,k6,k7⟩:=II hP hΦ h hk he hlt ht hfsl;rw[v1]at k2;cases k2;rw[v2]at k3;cases k3;have k1:(K (.v ag xs) (rD s' y cc e off xs)).Ok:=k1;have hy2:=a y (av Ll.1);have he2:e.ev ρ'=e.ev ρ:=LE.bG a Ll.2
    have hxl:xs.length=n:=by
     have:=congrArg List.length k7;rw[zaf,zas,zaf,zas]at this;simp only[aB,zcw]at this;omega
    refine⟨ρ',rD s' y cc e off xs,a,by rw[wI];exact n',wJ (b:=b) (o:=o) (l:=(ρ y).ns.length) (cap:=cap) (size:=size) (el:=el) (C:=C) rfl (by rw[hy2];exact v1) v2 (by rw[he2];exact hlt) v3 o' fun k hkl=>?_,xs,b,o,cap,.raw,el,size,C,k1,v1,v2,k4,k5,k6,k7⟩;rw[hxl]at hkl;refine⟨by omega,?_⟩;rw[he2,k7,zbd hkl,zbb,zbd (by omega),zbb]
theorem rF (ρ:aZ)(cs:List SC)(o n:Nat):aB ρ ((cs.drop o).take n)=((aB ρ cs).drop o).take n:=by simp[aB]
theorem IK {C:List AV}{p n:Nat}{xs:List SC}(h:aB ρ xs=(C.drop p).take n)(hn:n=1)(hp:p<C.length):∃x,xs=[x]/\C[p]?=some (x.den ρ):=by
 subst hn;have e1:(C.drop p).take 1=[C[p]]:=by rw[List.drop_eq_getElem_cons hp,List.take_succ_cons,List.take_zero]
 rw[e1]at h;cases xs with
 |nil=>cases h
 |cons x xs =>
  have h:x.den ρ::aB ρ xs=[C[p]]:=h;rw[List.cons.injEq]at h;have hnil:xs=[]:=by cases xs with|nil=>rfl|cons _ _=>cases h.2
  subst hnil;exact⟨x,rfl,by rw[zap hp,h.1]⟩
theorem Nq (x:SC)(ρ:aZ):x.den ρ≠aE:=by
 have key:∀v:AV,cr v=true->v≠aE:=fun v h e=>by subst e;cases h
 cases x with
 |ref x=>exact key _ (U.rr _)
 |oB x i sz o =>
  refine key _ ?_;show cr (pf _ _)=true;unfold pf;split<;>rfl
 |vd x o =>
  refine key _ ?_;show cr (mH _ _)=true;unfold mH;split<;>rfl
 |_=>exact fun h=>by cases h
theorem Lm (xs:List SC)(ρ:aZ):aE∉aB ρ xs:=fun h=>by
 obtain⟨x,_,e⟩:=List.mem_map.1 h;exact Nq x ρ e
theorem CT {t:TypeId}{x:Nat}{v:SV}{K:SV->SS->R}(ho:(af ops i).op=.load t (.tmp x))(hg:(af ops i).guard=none)(hP:cf.P=c.P)(hΦ:cf.Φ=c.Φ)(h:(Ro cf t v s K).Ok)(hk:Ok c T G Γ ρ s)(hx:T.at x=v.den ρ):Lo c T G Γ ops i s ρ K:=by
 -- an object's part
 have obj:∀{y o cc g n:Nat} {ag:Bool},pI s.ty y=some (cc,g)->T.at x=mH (ρ y).vv o->(yr cf cc g (.k 0) o n ag (.k WU) s K).Ok->c.Φ.gv cc=true->(ag=true/\dZ c.P t=true/\n=ae c.P t)∨(ag=false/\dZ c.P t=false/\cD c.P t=true/\n=1)->Lo c T G Γ ops i s ρ K:=fun {y o cc g n ag} hp hxp h hu hc=>by
  obtain⟨b,L,m,size,C,q1,q2,q3,q4,q5,q6,q7⟩:=(hk.ty (iN hp)).deref hk.q.ht;have hmw:m=WU:=(hk.q.ht.b _ _ q2).2.1 hu m (zba q3)
  have hle:o+n<=(c.Φ.ks cc).length:=by
   have hp:=h;unfold yr at hp;rw[hΦ]at hp;cases hc:Nat.ble (o+n) (c.Φ.ks cc).length with
   |false=>rw[hc]at hp;cases hp
   |true=>exact aK hc
  have hlen:(c.Φ.ks cc).length=ae c.P (c.Φ.ty cc):=by
   obtain⟨fs,w1,_⟩:=q7;rw[<-w1.len,zaf];omega
  have hq1:(ρ y).vv=.cu b 0:=q1;rw[hq1]at hxp;have hxp:T.at x=.cu b (0+o):=hxp;refine (CS hΦ h hk (J:=0) (by rw[LE.bz];exact⟨zch _,rfl⟩) q7 (by rw[LE.bz,hmw];exact zch _)).mono fun ρ2 s2 a2 n2 o2 hh=>?_;obtain⟨xs,g1,g2⟩:=hh
  have e1:((C.take (ae c.P (c.Φ.ty cc))).drop o).take n=(C.drop (0+o)).take n:=by
   rw[ze,zep,zcl (by omega),zaq]
  rw[e1]at g2;rcases hc with ⟨rfl,h1,rfl⟩|⟨rfl,h1,h2,h3⟩
  ·exact⟨_,g1,by
     show bq _ _ _ _ _ _ _ _ _ (.agg (aB ρ2 xs));rw[g2]
     exact bq.DQ hg ho hxp h1 rfl q4 (by omega) rfl⟩
  ·obtain⟨u,rfl,hu⟩:=IK g2 h3 (by omega);exact⟨_,g1,bq.AJ hg ho hxp h2 h1 q4 hu⟩
 unfold Ro at h;rw[hP,hΦ]at h;split at h
 ·rename_i b o;cases hl:ic s.os b with
  |none=>rw[hl]at h;cases h
  |some p =>
   obtain⟨el,cs⟩:=p;rw[hl]at h;simp only at h;have hG:=hk.loc hl;have hx:T.at x=.cu (ρ b).nn o:=hx;have kM:(aB ρ cs).length=cs.length:=by simp[aB]
   cases ha:dZ c.P t with
   |true =>
    rw[ha]at h;cases hb:Nat.ble (o+ae c.P t) cs.length with
    |false=>rw[hb]at h;cases h
    |true =>
     rw[hb]at h;refine Lo.here hk h ?_;show bq _ _ _ _ _ _ _ _ _ (.agg (aB ρ _));rw[rF];exact bq.DQ hg ho hx ha rfl hG (by rw[kM];exact aK hb) rfl
   |false =>
    rw[ha]at h;cases hkn:cD c.P t with
    |false=>rw[hkn]at h;cases h
    |true =>
     rw[hkn]at h;simp only[cond_true,cond_false]at h;cases hc:cs[o]? with
     |none=>rw[hc]at h;cases h
     |some u =>
      rw[hc]at h;exact Lo.here hk h (bq.AJ hg ho hx hkn ha hG (by simp[aB,hc];rfl))
 ·rename_i y e sz o;cases hf:py s.ty y with
  |none=>rw[hf]at h;cases h
  |some p =>
   obtain⟨cc,g⟩:=p;rw[hf]at h;simp only at h;cases hc:(Ea s y e&&Nat.beq sz (ae c.P (c.Φ.ty cc)))with
   |false=>rw[hc]at h;cases h
   |true =>
    rw[hc]at h;simp only[cond_true]at h;rw[za]at hc;obtain⟨cc',g',b0,o0,cp0,r1,r2,r3,r4,r5⟩:=rB hc.1 hk;rw[hf]at r1;simp only[Option.some.injEq,Prod.mk.injEq]at r1;obtain⟨rfl,rfl⟩:=r1;have hsz:=ai hc.2;subst hsz
    have fin:∀{n:Nat} {ag:Bool},(CR cf y e o n ag cc g s K).Ok->(ag=true/\dZ c.P t=true/\n=ae c.P t)∨(ag=false/\dZ c.P t=false/\cD c.P t=true/\n=1)->Lo c T G Γ ops i s ρ K:=fun {n ag} h hcs=>by
     refine (Eb hP hΦ h hk r3 r4 r5 hf).mono fun ρ2 s2 a2 n2 o2 hh=>?_;obtain⟨xs,b,o',cap,kd,el,size,C,g1,g2,g3,g4,g5,g6,g7⟩:=hh;have hx:T.at x=.cu b (o'+((e.ev ρ).toNat*ae c.P (c.Φ.ty cc)+o)):=hx.trans (mf g2)
     have e1:(((C.drop (o'+(e.ev ρ).toNat*ae c.P (c.Φ.ty cc))).take (ae c.P (c.Φ.ty cc))).drop o).take n=(C.drop (o'+((e.ev ρ).toNat*ae c.P (c.Φ.ty cc)+o))).take n:=by
      rw[ze,zep,zcq,zcl (by omega),zbq]
     rw[e1]at g7;rcases hcs with ⟨rfl,h1,rfl⟩|⟨rfl,h1,h2,h3⟩
     ·exact⟨_,g1,by
        show bq _ _ _ _ _ _ _ _ _ (.agg (aB ρ2 xs));rw[g7]
        exact bq.DQ hg ho hx h1 rfl g3 (by omega) rfl (fun _=>by rw[<-g7];exact Lm xs ρ2)⟩
     ·obtain⟨u,rfl,hu⟩:=IK g7 h3 (by omega);exact⟨_,g1,bq.AJ hg ho hx h2 h1 g3 hu (fun _=>Nq u ρ2)⟩
    cases ha:dZ c.P t with
    |true=>rw[ha]at h;exact fin h (.inl ⟨rfl,ha,rfl⟩)
    |false =>
     rw[ha]at h;cases hkn:cD c.P t with
     |false=>rw[hkn]at h;cases h
     |true=>rw[hkn]at h;exact fin h (.inr ⟨rfl,ha,hkn,rfl⟩)
 ·rename_i y;cases hf:pI s.ty y with
  |none=>rw[hf]at h;cases h
  |some p =>
   obtain⟨cc,g⟩:=p;rw[hf]at h;simp only at h;have hx:T.at x=mH (ρ y).vv 0:=hx.trans (by obtain⟨b,hb⟩:=uK hk hf;show (ρ y).vv=_;rw[hb];rfl);cases hu:c.Φ.gv cc with
   |false=>rw[hu]at h;cases h
   |true =>
    rw[hu]at h;cases ha:dZ c.P t with
    |true=>rw[ha]at h;exact obj hf hx h hu (.inl ⟨rfl,ha,rfl⟩)
    |false =>
     rw[ha]at h;cases hkn:cD c.P t with
     |false=>rw[hkn]at h;cases h
     |true=>rw[hkn]at h;exact obj hf hx h hu (.inr ⟨rfl,ha,hkn,rfl⟩)
 ·rename_i y o;cases hf:pI s.ty y with
  |none=>rw[hf]at h;cases h
  |some p =>
   obtain⟨cc,g⟩:=p;rw[hf]at h;simp only at h;cases hu:c.Φ.gv cc with
   |false=>rw[hu]at h;cases h
   |true =>
    rw[hu]at h;cases ha:dZ c.P t with
    |true=>rw[ha]at h;exact obj hf hx h hu (.inl ⟨rfl,ha,rfl⟩)
    |false =>
     rw[ha]at h;cases hkn:cD c.P t with
     |false=>rw[hkn]at h;cases h
     |true=>rw[hkn]at h;exact obj hf hx h hu (.inr ⟨rfl,ha,hkn,rfl⟩)
 ·cases h
def Rp (cf:Cf)(t:TypeId)(x:SV)(s:SS)(K:SV->SS->R):R:=match cf.P.underlying t,x with
 |some (.slice _),.v false [.ab]=>K (sc (.int .i64 (.k 0))) s
 |some (.slice _),.v false [.ref y]=>(match py s.ty y with|some _=>K (sc (.int .i64 (.a (.len y)))) s|none=>.bad 63 s)
 |some .string,.v false [.str y]=>K (sc (.int .i64 (.a (.sl y)))) s
 |some .string,.v false [.mF l _]=>K (sc (.int .i64 (.k l))) s
 |_,_=>.bad 64 s
theorem CU {cl:Call}{t:TypeId}{ats:List TypeId}{x:Operand}{v:SV}{K:SV->SS->R}(ho:(af ops i).op=.call cl)(hc:cl.callee=.builtin .len)(hats:cl.argTypes.toList=t::ats)(hxa:cl.args.toList=[x])(hg:(af ops i).guard=none)(hP:cf.P=c.P)(h:(Rp cf t v s K).Ok)(hk:Ok c T G Γ ρ s)(hx:bH c.nt T x (v.den ρ)):Lo c T G Γ ops i s ρ K:=by
 unfold Rp at h;rw[hP]at h;split at h
 ·rename_i e hu;refine Lo.here hk h ?_;show bq _ _ _ _ _ _ _ _ _ (.int .i64 ((LE.k 0).ev ρ));rw[LE.bz];exact bq.La (n:=0) hg ho hc hats hxa hu hx (.inl ⟨rfl,rfl⟩)
 ·rename_i e y hu;cases hf:py s.ty y with
  |none=>rw[hf]at h;cases h
  |some p =>
   rw[hf]at h;refine Lo.here hk h ?_;show bq _ _ _ _ _ _ _ _ _ (.int .i64 ((LE.a (.len y)).ev ρ));rw[LE.aQ];refine bq.La (n:=(ρ y).ns.length) hg ho hc hats hxa hu hx ?_;rcases (hk.ty (gE (c:=p.1) (g:=p.2) hf)).form with ⟨h1,h2⟩|⟨b,o,cp,h1⟩
   ·have h2:(ρ y).ns=[]:=h2;exact .inl ⟨h1,by rw[h2];rfl⟩
   ·exact .inr ⟨b,o,cp,h1⟩
 ·rename_i y hu;refine Lo.here hk h ?_;show bq _ _ _ _ _ _ _ _ _ (.int .i64 ((LE.a (.sl y)).ev ρ));rw[LE.aQ];exact bq.Iw hg ho hc hats hxa hu hx
 ·rename_i l m hu;refine Lo.here hk h ?_;show bq _ _ _ _ _ _ _ _ _ (.int .i64 ((LE.k l).ev ρ));rw[LE.bz];exact bq.Iw hg ho hc hats hxa hu hx
 ·cases h
end
end Go.Rd
namespace Go.Rd
open Go.aI Go.RowKit Go.Rt
def dN:SV->Option (List SC)
 |.v true cs=>some cs
 |.v false [x]=>some [x]
 |_=>none
section
variable {c:Cx}{T:Tm}{G:GH}{Γ:dy}{ρ ρ':aZ}{s s':SS}{cf:Cf}{ops:Array Oper}{i:Nat}
theorem A4 (x:SC)(ρ:aZ):nf (x.den ρ)/\sH (x.den ρ)=true/\(x.den ρ).cells=[x.den ρ]:=by
 cases x with
 |int k e=>exact⟨kL _ _,rfl,rfl⟩
 |bool b=>exact⟨lX _,rfl,rfl⟩
 |str x=>exact⟨iZ _ _,rfl,rfl⟩
 |mF l m=>exact⟨iZ _ _,rfl,rfl⟩
 |oz k x=>exact⟨qy _ _,rfl,rfl⟩
 |x9 k x=>exact⟨qy _ _,rfl,rfl⟩
 |ref x =>
  have:=U.rr (ρ x);show nf (ρ x).vv/\sH (ρ x).vv=true/\(ρ x).vv.cells=[(ρ x).vv];generalize (ρ x).vv=v at this;cases v<;>first|(cases this;done)|skip
  ·exact⟨nV,rfl,rfl⟩
  ·exact⟨lY,rfl,rfl⟩
  ·exact⟨nW,rfl,rfl⟩
  ·exact⟨ja _ _ _ _,rfl,rfl⟩
  ·exact⟨oW _ _,rfl,rfl⟩
  ·exact⟨xU _,rfl,rfl⟩
 |ab=>exact⟨lY,rfl,rfl⟩
 |dY=>exact⟨nV,rfl,rfl⟩
 |bg=>exact⟨nW,rfl,rfl⟩
 |cy=>exact⟨Ci,rfl,rfl⟩
 |cu b o=>exact⟨oW _ _,rfl,rfl⟩
 |oB x e sz o =>
  show nf (pf _ _)/\sH (pf _ _)=true/\(pf _ _).cells=[pf _ _];unfold pf;split
  ·exact⟨oW _ _,rfl,rfl⟩
  ·exact⟨nV,rfl,rfl⟩
 |vd x o =>
  show nf (mH _ _)/\sH (mH _ _)=true/\(mH _ _).cells=[mH _ _];unfold mH;split
  ·exact⟨oW _ _,rfl,rfl⟩
  ·exact⟨nV,rfl,rfl⟩
 |cV b=>exact⟨xU _,rfl,rfl⟩
 |wE b n=>exact⟨ja _ _ _ _,rfl,rfl⟩
 |fn f=>exact⟨fun _ _=>by simp[SC.den,ak,ao,jV],rfl,rfl⟩
theorem fp (cs:List SC)(ρ:aZ):lC (aB ρ cs):=fun v hv=>by
 obtain⟨x,_,rfl⟩:=List.mem_map.1 hv;exact (A4 x ρ).1
theorem rH (cs:List SC)(ρ:aZ):flat (aB ρ cs)=true:=AL fun v hv=>by
 obtain⟨x,_,rfl⟩:=List.mem_map.1 hv;exact (A4 x ρ).2.1
theorem fy {v:SV}{cs:List SC}(h:dN v=some cs)(ρ:aZ):(v.den ρ).cells=aB ρ cs:=by
 unfold dN at h;split at h
 ·cases h;rfl
 ·rename_i x;cases h;exact (A4 x ρ).2.2
 ·cases h
theorem Ec (p:Bool×List SC)(ρ:aZ):nf (dS ρ p):=by
 unfold dS;split
 ·exact xV (fp _ _)
 ·cases h:aB ρ p.2 with
  |nil=>exact lY
  |cons v l=>exact fp p.2 ρ v (by rw[h];exact zac ..)
theorem wK (v:SV)(ρ:aZ):nf (v.den ρ):=by
 cases v with
 |v ag cs=>exact Ec _ _
 |dC l=>exact HZ fun u hu=>by obtain⟨p,_,rfl⟩:=List.mem_map.1 hu;exact Ec _ _
 |undef=>exact qz
 |ve f bs cs=>exact fun ι ι'=>by simp only[SV.den,ak,jV,ao];rw[lZ (fp cs ρ) ι ι',lZ (fp bs ρ) ι ι']
 |slt q e sz =>
  show nf (Kb (ρ q).vv (e.ev ρ).toNat sz);have hr:=U.rr (ρ q);unfold Kb;split
  ·exact ja _ _ _ _
  ·exact fun ι ι'=>by
     cases hv:(ρ q).vv<;>first|(rw[hv]at hr;cases hr;done)|simp[ak]
 |yl q=>exact HY _
def Um (x:SV)(k:Nat)(s:SS)(K:SV->SS->R):R:=match x with
 |.dC l=>(match l[k]? with|some p=>K (.v p.1 p.2) s|none=>.bad 70 s)
 |_=>.bad 71 s
theorem O5 {x:Operand}{k:Nat}{v:SV}{K:SV->SS->R}(ho:(af ops i).op=.extract x k)(hg:(af ops i).guard=none)(h:(Um v k s K).Ok)(hk:Ok c T G Γ ρ s)(hx:bH c.nt T x (v.den ρ)):Lo c T G Γ ops i s ρ K:=by
 unfold Um at h;split at h
 ·rename_i l;cases hl:l[k]? with
  |none=>rw[hl]at h;cases h
  |some p =>
   rw[hl]at h;exact Lo.here hk h (bq.Iu hg ho hx (by rw[zcs,hl];rfl))
 ·cases h
def Un (cf:Cf)(t:TypeId)(x:SV)(f:Nat)(s:SS)(K:SV->SS->R):R:=match x,fq cf.P t f with
 |.v true cs,some (off,ft)=>bif dZ cf.P ft then K (.v true ((cs.drop off).take (ae cf.P ft))) s
  else bif cD cf.P ft then (match cs[off]? with|some x=>K (sc x) s|none=>.bad 72 s)else .bad 73 s
 |_,_=>.bad 74 s
theorem O6 {t:TypeId}{x:Operand}{f:Nat}{v:SV}{K:SV->SS->R}(ho:(af ops i).op=.field t x f)(hg:(af ops i).guard=none)(hP:cf.P=c.P)(h:(Un cf t v f s K).Ok)(hk:Ok c T G Γ ρ s)(hx:bH c.nt T x (v.den ρ)):Lo c T G Γ ops i s ρ K:=by
 unfold Un at h;rw[hP]at h;split at h
 ·rename_i cs off ft hf;have hx:bH c.nt T x (.agg (aB ρ cs)):=hx;cases ha:dZ c.P ft with
  |true =>
   rw[ha]at h;refine Lo.here hk h ?_;show bq _ _ _ _ _ _ _ _ _ (.agg (aB ρ _));rw[rF];exact bq.Iv hg ho hf hx (tR ha)
  |false =>
   rw[ha]at h;cases hkn:cD c.P ft with
   |false=>rw[hkn]at h;cases h
   |true =>
    rw[hkn]at h;simp only[cond_true,cond_false]at h;cases hc:cs[off]? with
    |none=>rw[hc]at h;cases h
    |some u =>
     rw[hc]at h;exact Lo.here hk h (bq.Iv hg ho hf hx (nk hkn ha (by simp[aB,hc];rfl)))
 ·cases h
def Uo (x:SV)(a b:Option SV)(s:SS)(K:SV->SS->R):R:=match x with
 |.v false [.bool be]=>split s be (fun s=>match a with|some v=>K v s|none=>.bad 75 s) (fun s=>match b with|some v=>K v s|none=>.bad 75 s)
 |_=>.bad 76 s
theorem O7 {x y y':Operand}{v:SV}{a b:Option SV}{K:SV->SS->R}(ho:(af ops i).op=.pick x y y')(hg:(af ops i).guard=none)(h:(Uo v a b s K).Ok)(hk:Ok c T G Γ ρ s)(hx:bH c.nt T x (v.den ρ))(ha:∀u,a=some u->bH c.nt T y (u.den ρ))(hb:∀u,b=some u->bH c.nt T y' (u.den ρ)):Lo c T G Γ ops i s ρ K:=by
 unfold Uo at h;split at h
 ·rename_i be;have hx:bH c.nt T x (.bool (be.ev ρ)):=hx;obtain⟨s1,n1,d1,o1,h1|h1⟩:=nJ h hk
  ·obtain⟨e1,h1⟩:=h1;cases ha':a with
   |none=>rw[ha']at h1;cases h1
   |some u=>rw[ha']at h1;exact Lo.to n1 (Lo.here o1 h1 (bq.Nc hg ho hx (fun _=>ha u ha') (fun e=>by rw[e1]at e;cases e)))
  ·obtain⟨e1,h1⟩:=h1;cases hb':b with
   |none=>rw[hb']at h1;cases h1
   |some u=>rw[hb']at h1;exact Lo.to n1 (Lo.here o1 h1 (bq.Nc hg ho hx (fun e=>by rw[e1]at e;cases e) (fun _=>hb u hb')))
 ·cases h
def wM (place:Nat->Option (Nat×Nat)):List (Nat×List SC)->List SC->Option (List SC)
 | [],cs=>some cs
 |p::ps,cs=>match place p.1 with
  |none=>none
  |some (off,size)=>bif Nat.beq p.2.length size&&Nat.ble (off+size) cs.length then wM place ps (rv off p.2 cs)else none
def uL (s:SS):List (Nat×Operand)->Option (List (Nat×SV×List SC))
 | []=>some []
 |p::ps=>match GX s p.2,uL s ps with
  |some v,some l=>(match dN v with|some cs=>some ((p.1,v,cs)::l)|none=>none)
  |_,_=>none
theorem rI (hq:Q c T G Γ (s.den ρ)):∀{ps:List (Nat×Operand)}{l:List (Nat×SV×List SC)},uL s ps=some l->K9 c.nt T ps (l.map fun p=>(p.1,p.2.1.den ρ))/\∀p∈l,(p.2.1.den ρ).cells=aB ρ p.2.2
 | [],l,h=>by cases h;exact⟨trivial,fun p hp=>by cases hp⟩
 |p::ps,l,h=>by
  unfold uL at h;split at h
  ·rename_i v l' hv hl;cases hc:dN v with
   |none=>rw[hc]at h;cases h
   |some cs =>
    rw[hc]at h;cases h;obtain⟨h1,h2⟩:=rI hq hl;refine⟨⟨rfl,pq hv hq,h1⟩,fun q hqm=>?_⟩;rcases List.mem_cons.1 hqm with rfl|hqm
    ·exact fy hc ρ
    ·exact h2 q hqm
  ·cases h
theorem uM {place:Nat->Option (Nat×Nat)}:∀{l:List (Nat×SV×List SC)}{cs cs':List SC},wM place (l.map fun p=>(p.1,p.2.2)) cs=some cs'->(∀p∈l,(p.2.1.den ρ).cells=aB ρ p.2.2)->uG place (l.map fun p=>(p.1,p.2.1.den ρ)) (aB ρ cs)=some (aB ρ cs')
 | [],cs,cs',h,_=>by cases h;rfl
 |p::l,cs,cs',h,hc=>by
  have h:(match place p.1 with
   |none=>none
   |some (off,size)=>bif Nat.beq p.2.2.length size&&Nat.ble (off+size) cs.length then wM place (l.map fun p=>(p.1,p.2.2)) (rv off p.2.2 cs)else none)=some cs':=h
  show (match place p.1 with
   |none=>none
   |some (off,size)=>if (p.2.1.den ρ).cells.length=size/\off+size<=(aB ρ cs).length then uG place (l.map fun (p:Nat×SV×List SC)=>(p.1,p.2.1.den ρ)) (rv off (p.2.1.den ρ).cells (aB ρ cs))else none)=_
  cases hp:place p.1 with
  |none=>rw[hp]at h;cases h
  |some q =>
   obtain⟨off,size⟩:=q;rw[hp]at h;simp only at h ⊢;cases hb:(Nat.beq p.2.2.length size&&Nat.ble (off+size) cs.length)with
   |false=>rw[hb]at h;cases h
   |true =>
    rw[hb]at h;rw[za]at hb;have e1:=hc p (zac ..);have hl:(aB ρ p.2.2).length=p.2.2.length:=by simp[aB]
    have hl2:(aB ρ cs).length=cs.length:=by simp[aB]
    rw[e1,if_pos ⟨by rw[hl];exact ai hb.1,by rw[hl2];exact aK hb.2⟩];have e2:rv off (aB ρ p.2.2) (aB ρ cs)=aB ρ (rv off p.2.2 cs):=(D5 (SC.den ρ) off p.2.2 cs).symm;rw[e2];exact uM h fun q hq=>hc q (zaa _ hq)
def IL (l:List (Nat×SV×List SC)):List (Nat×List SC):=l.map fun p=>(p.1,p.2.2)
def IM (P:Program)(fs:Array Field):Option (List (Nat×Nat)):=fs.toList.mapM fun f=>(P.info? f.type).map fun i=>(f.offset,i.size)
def Up (cf:Cf)(t:TypeId)(ps:List (Nat×Operand))(s:SS)(K:SV->SS->R):R:=match cf.P.underlying t with
 |some (.struct fs)=>(match IM cf.P fs,(zeroOf cf.P t).bind sW,uL s ps with
  |some pl,some (.v true cs),some l=>(match wM (fun i=>pl[i]?) (IL l) cs with|some cs'=>K (.v true cs') s|none=>.bad 77 s)
  |_,_,_=>.bad 78 s)
 |_=>.bad 79 s
theorem O8 {t:TypeId}{ps:Array (Nat×Operand)}{K:SV->SS->R}(ho:(af ops i).op=.build t ps)(hg:(af ops i).guard=none)(hP:cf.P=c.P)(h:(Up cf t ps.toList s K).Ok)(hk:Ok c T G Γ ρ s):Lo c T G Γ ops i s ρ K:=by
 unfold Up at h;rw[hP]at h;split at h
 ·rename_i fs hu;split at h
  ·rename_i pl cs l hpl hz hl;cases hf:wM (fun i=>pl[i]?) (IL l) cs with
   |none=>rw[hf]at h;cases h
   |some cs' =>
    rw[hf]at h;cases hzz:zeroOf c.P t with
    |none=>rw[hzz]at hz;cases hz
    |some zz =>
     rw[hzz]at hz;have hz:sW zz=some (.v true cs):=hz;have e1:=jc hz ρ;obtain⟨p1,p2⟩:=rI hk.q hl;refine Lo.here hk h (bq.OV hg ho hzz hu hpl p1 ?_);have e2:zz.cells=aB ρ cs:=by rw[<-e1];rfl
     rw[e2];exact uM hf p2
  ·cases h
 ·cases h
def Uq (x:SV)(s:SS)(K:SV->SS->R):R:=match x with
 |.v false [.bool b]=>K (sc (.bool b.not)) s
 |_=>.bad 80 s
theorem O9 {t:TypeId}{x:Operand}{v:SV}{K:SV->SS->R}(ho:(af ops i).op=.unOp .not t x)(hg:(af ops i).guard=none)(h:(Uq v s K).Ok)(hk:Ok c T G Γ ρ s)(hx:bH c.nt T x (v.den ρ)):Lo c T G Γ ops i s ρ K:=by
 unfold Uq at h;split at h
 ·rename_i b;refine Lo.here hk h ?_;show bq _ _ _ _ _ _ _ _ _ (.bool (b.not.ev ρ));rw[BE.Cz];exact bq.Uj hg ho hx
 ·cases h
def Ur (cf:Cf)(t t':TypeId)(x:SV)(s:SS)(K:SV->SS->R):R:=match cf.P.underlying t,cf.P.underlying t',x with
 |some (.int ks),some (.int kt),.v false [.int k e]=>bif gB k ks then Lg s kt (some e) K else .bad 81 s
 |_,_,_=>.bad 82 s
theorem Pa {t t':TypeId}{x:Operand}{v:SV}{K:SV->SS->R}(ho:(af ops i).op=.convert t t' x)(hg:(af ops i).guard=none)(hP:cf.P=c.P)(h:(Ur cf t t' v s K).Ok)(hk:Ok c T G Γ ρ s)(hx:bH c.nt T x (v.den ρ)):Lo c T G Γ ops i s ρ K:=by
 unfold Ur at h;rw[hP]at h;split at h
 ·rename_i ks kt k e hu hu';cases hb:gB k ks with
  |false=>rw[hb]at h;cases h
  |true =>
   rw[hb]at h;have:k=ks:=of_decide_eq_true hb;subst this;simp only[cond_true]at h;exact IF h hk (fun e' he=>by cases he;rfl) (bq.Rc hg ho hu hu' hx)
 ·cases h
def A5:SC->Option LE
 |.str y=>some (.a (.sl y))
 |.mF l _=>some (.k l)
 |_=>none
theorem A6 {x:SC}{e:LE}(h:A5 x=some e)(ρ:aZ):∃l m:Nat,x.den ρ=.str l m/\e.ev ρ=l:=by
 cases x<;>first|(cases h;done)|skip
 ·cases h;exact⟨_,_,rfl,by rw[LE.aQ];rfl⟩
 ·cases h;exact⟨_,_,rfl,by rw[LE.bz]⟩
def Us (cf:Cf)(t:TypeId)(x y:SV)(s:SS)(K:SV->SS->R):R:=match cf.P.underlying t,x,y with
 |some .string,.v false [x],.v false [.int kd e]=>(match A5 x with
  |some l=>bif bo s e&&bo s ((l.sub e).bk (-1))then fresh s fun z s=>K (sc (.int .u8 (.a (.n z)))) s else .bad 83 s
  |none=>.bad 84 s)
 |_,_,_=>.bad 85 s
theorem Pb {t:TypeId}{x y:Operand}{v u:SV}{K:SV->SS->R}(ho:(af ops i).op=.index t x y)(hg:(af ops i).guard=none)(hP:cf.P=c.P)(h:(Us cf t v u s K).Ok)(hk:Ok c T G Γ ρ s)(hx:bH c.nt T x (v.den ρ))(hy:bH c.nt T y (u.den ρ)):Lo c T G Γ ops i s ρ K:=by
 unfold Us at h;rw[hP]at h;split at h
 ·rename_i x' kd e hu;cases hl:A5 x' with
  |none=>rw[hl]at h;cases h
  |some le =>
   rw[hl]at h;simp only at h;obtain⟨l,m,e1,e2⟩:=A6 hl ρ;cases hb:(bo s e&&bo s ((le.sub e).bk (-1)))with
   |false=>rw[hb]at h;cases h
   |true =>
    rw[hb]at h;simp only[cond_true]at h;rw[za]at hb;have k1:=ax hb.1 hk.sat;have k2:=ax hb.2 hk.sat;rw[LE.aO,LE.aw,e2]at k2;have hx:bH c.nt T x (.str l m):=by rw[<-e1];exact hx
    have hy:bH c.nt T y (.int kd (.ofNat (e.ev ρ).toNat)):=by
     have:(SV.v false [.int kd e]).den ρ=.int kd (.ofNat (e.ev ρ).toNat):=by show AV.int kd (e.ev ρ)=_;congr 1;exact (zbp k1).symm
     rw[<-this];exact hy
    have hlv:=bq.OL hg ho hu hx hy (by omega) (P:=c.P) (n0:=c.n0) (hp:=c.hp) (nx:=c.nx) (G:=G);obtain⟨h1,h2,h3,h4⟩:=aA h hk (.n (Nat.mod (Nat.div m (lG (Nat.sub l ((e.ev ρ).toNat+1)))) 256));refine Lo.fr h3 h1 ?_
    have:(sc (.int .u8 (.a (.n s.nx)))).den (ρ.up s.nx (.n (Nat.mod (Nat.div m (lG (Nat.sub l ((e.ev ρ).toNat+1)))) 256)))=.int .u8 (.ofNat (Nat.mod (Nat.div m (lG (Nat.sub l ((e.ev ρ).toNat+1)))) 256)):=by
     show AV.int .u8 ((LE.a (.n s.nx)).ev _)=_;rw[LE.aQ];show AV.int .u8 ((ρ.up s.nx _ s.nx).nn:Int)=_;rw[h4];rfl
    rw[this];exact hlv
 ·cases h
def Ut (cf:Cf)(t:TypeId)(x y:SV)(s:SS)(K:SV->SS->R):R:=match cf.P.underlying t,x,y with
 |some .string,.v false [x],.v false [.int kd e]=>(match A5 x with
  |some l=>bif bo s e&&(bo s (l.sub e)&&(e.lt s.nx&&bo s ((LE.k jb).sub e)))then fresh s fun z s=>K (sc (.str z)) (aP (aP s ((LE.a (.sl z)).sub e)) (e.sub (.a (.sl z))))else .bad 86 s
  |none=>.bad 87 s)
 |some (.slice el),.v false [.ref q],.v false [.int kd e]=>(match py s.ty q with
  |some (cc,g)=>bif cf.Φ.gv cc&&(Nat.beq el (cf.Φ.ty cc)&&((cf.P.info? el).isSome&&(bo s e&&(bo s ((LE.a (.len q)).sub e)&&(bo s ((LE.a (.len q)).bk (-1))&&(e.lt s.nx&&bJ s.nx g))))))then
   fresh s fun z s=>K (sc (.ref z)) (aP (aP (aY s (.sl z cc g)) ((LE.a (.len z)).sub e)) (e.sub (.a (.len z))))else .bad 88 s
  |none=>.bad 89 s)
 |_,_,_=>.bad 90 s
theorem CV {v:AV}{cc g:Nat}{ns:List Nat}(h:fF c.P c.Φ G Γ (.sl v cc g ns))(hu:c.Φ.gv cc=true):ns.length<=jB/\((v=.ab/\ns=[])∨∃b cap L size C,v=.cN b 0 ns.length cap/\Γ.m b=some (.cells cc g L)/\ns=L.take ns.length/\G b=some (.cells .data (c.Φ.ty cc) size C)/\cap*ae c.P (c.Φ.ty cc)<=size/\ns.length<=cap):=by
 obtain⟨hl,h⟩:=h;refine⟨hl,?_⟩;rcases h with h|⟨_,h⟩|h
 ·exact .inl h
 ·cases h with
  |nil=>exact .inl ⟨rfl,rfl⟩
  |emp hu'=>rw[hu]at hu';cases hu'
  |aS _ hu' _ _=>rw[hu]at hu';cases hu'
 ·exact .inr h
theorem Pc {t:TypeId}{x:Operand}{y:Nat}{v u:SV}{K:SV->SS->R}(ho:(af ops i).op=.slice t x none (some (.tmp y)) none)(hg:(af ops i).guard=none)(hP:cf.P=c.P)(hΦ:cf.Φ=c.Φ)(h:(Ut cf t v u s K).Ok)(hk:Ok c T G Γ ρ s)(hx:bH c.nt T x (v.den ρ))(hy:T.at y=u.den ρ):Lo c T G Γ ops i s ρ K:=by
 unfold Ut at h;rw[hP,hΦ]at h;split at h
 ·rename_i x' kd e hu;cases hl:A5 x' with
  |none=>rw[hl]at h;cases h
  |some le =>
   rw[hl]at h;simp only at h;obtain⟨l,m,e1,e2⟩:=A6 hl ρ;cases hb:(bo s e&&(bo s (le.sub e)&&(e.lt s.nx&&bo s ((LE.k jb).sub e))))with
   |false=>rw[hb]at h;cases h
   |true =>
    rw[hb]at h;simp only[cond_true]at h;simp only[za]at hb;obtain⟨b1,b2,b3,b4⟩:=hb;have k1:=ax b1 hk.sat;have k2:=ax b2 hk.sat;have k3:=ax b4 hk.sat;rw[LE.aw,e2]at k2;rw[LE.aw,LE.bz]at k3;have hlim:(e.ev ρ).toNat<=jb:=by omega
    have hx:bH c.nt T x (.str l m):=by rw[<-e1];exact hx
    have hy:T.at y=.int kd (.ofNat (e.ev ρ).toNat):=hy.trans (by show AV.int kd (e.ev ρ)=_;congr 1;exact (zbp k1).symm);have hlv:=bq.Q5 hg ho hu hx hy (by omega) (P:=c.P) (n0:=c.n0) (nt:=c.nt) (hp:=c.hp) (nx:=c.nx) (G:=G);obtain⟨h1,h2,h3,h4⟩:=aA h hk (.s (e.ev ρ).toNat (Nat.div m (lG (Nat.sub l (e.ev ρ).toNat))))
    have hsl:(LE.a (.sl s.nx)).ev (ρ.up s.nx (.s (e.ev ρ).toNat (Nat.div m (lG (Nat.sub l (e.ev ρ).toNat)))))=e.ev ρ:=by
     rw[LE.aQ];show ((ρ.up s.nx _ s.nx).sl:Int)=_;rw[h4,U.mB hlim];exact zbp k1
    refine fI.mk h2 (zan _) ((h3.aP ?_).aP ?_) ⟨_,h1,?_⟩
    ·rw[LE.aw,hsl,LE.bG h2 b3];omega
    ·rw[LE.aw,hsl,LE.bG h2 b3];omega
    ·show bq _ _ _ _ _ _ _ _ _ (.str (ρ.up s.nx _ s.nx).sl (ρ.up s.nx _ s.nx).sm);rw[h4,U.mB hlim];exact hlv
 ·rename_i el q kd e hu;cases hf:py s.ty q with
  |none=>rw[hf]at h;cases h
  |some p =>
   obtain⟨cc,g⟩:=p;rw[hf]at h;simp only at h;cases hb:(c.Φ.gv cc&&(Nat.beq el (c.Φ.ty cc)&&((c.P.info? el).isSome&&(bo s e&&(bo s ((LE.a (.len q)).sub e)&&(bo s ((LE.a (.len q)).bk (-1))&&(e.lt s.nx&&bJ s.nx g)))))))with
   |false=>rw[hb]at h;cases h
   |true =>
    rw[hb]at h;simp only[cond_true]at h;simp only[za]at hb;obtain⟨b0,b1,b2,b3,b4,b5,b6,b7⟩:=hb;have b1:=ai b1;subst b1;have k1:=ax b3 hk.sat;have k2:=ax b4 hk.sat;have k3:=ax b5 hk.sat;rw[LE.aw,LE.aQ]at k2;rw[LE.aO,LE.aQ]at k3;have k2:0<=((ρ q).ns.length:Int)-e.ev ρ:=k2;have k3:0<=((ρ q).ns.length:Int)+-1:=k3;have ht:=hk.ty (gE hf);obtain⟨hlim,ht⟩:=CV ht b0;rcases ht with ⟨_,h0⟩|⟨b,cap,L,size,C,q1,q2,q3,q4,q5,q6⟩
    ·rw[h0]at k3;simp at k3
    ·have hx:bH c.nt T x (.cN b 0 (ρ q).ns.length cap):=by have hx:bH c.nt T x (ρ q).vv:=hx;rw[q1]at hx;exact hx
     have hy:T.at y=.int kd (.ofNat (e.ev ρ).toNat):=hy.trans (by show AV.int kd (e.ev ρ)=_;congr 1;exact (zbp k1).symm);have hlv:=bq.T9 hg ho hu b2 hx hy (by omega) (P:=c.P) (n0:=c.n0) (nt:=c.nt) (hp:=c.hp) (nx:=c.nx) (G:=G);have hLL:=jL q3;have hlen:(L.take (e.ev ρ).toNat).length=(e.ev ρ).toNat:=by rw[zaf];omega
     obtain⟨h1,h2,h3,h4⟩:=aA h hk (.v (.cN b 0 (e.ev ρ).toNat cap) (L.take (e.ev ρ).toNat));have e1:(ρ.up s.nx (.v (.cN b 0 (e.ev ρ).toNat cap) (L.take (e.ev ρ).toNat)) s.nx).vv=.cN b 0 (e.ev ρ).toNat cap:=by rw[h4];rfl
     have e2:(ρ.up s.nx (.v (.cN b 0 (e.ev ρ).toNat cap) (L.take (e.ev ρ).toNat)) s.nx).ns=L.take (e.ev ρ).toNat:=by rw[h4];exact U.iw (by rw[hlen];omega)
     have hl2:(LE.a (.len s.nx)).ev (ρ.up s.nx (.v (.cN b 0 (e.ev ρ).toNat cap) (L.take (e.ev ρ).toNat)))=e.ev ρ:=by
      rw[LE.aQ];show ((ρ.up s.nx _ s.nx).ns.length:Int)=_;rw[e2,hlen];exact zbp k1
     refine fI.mk h2 (zan _) (((h3.aY (f:=.sl s.nx cc g) ?_).aP ?_).aP ?_) ⟨_,h1,?_⟩
     ·show fF c.P c.Φ G Γ (.sl _ cc (ig _ g) _);rw[e1,e2,ba h2 b7];exact⟨by rw[hlen];omega,.inr (.inr ⟨b,cap,L,size,C,by rw[hlen],q2,by rw[hlen],q4,q5,by rw[hlen];omega⟩)⟩
     ·rw[LE.aw,hl2,LE.bG h2 b6];omega
     ·rw[LE.aw,hl2,LE.bG h2 b6];omega
     ·show bq _ _ _ _ _ _ _ _ _ (ρ.up s.nx _ s.nx).vv;rw[e1];exact hlv
 ·cases h
end
end Go.Rd
namespace Go.Rd
open Go.aI Go.RowKit Go.Rt
theorem wN {k v:AV}:∀{es:List (AV×AV)},bD k es=some v->∃p∈es,p.2=v/\aW k p.1=true
 | [],h=>by cases h
 |p::es,h=>by
  have h:(bif aW k p.1 then some p.2 else bD k es)=some v:=h;cases hq:aW k p.1 with
  |true=>rw[hq]at h;exact⟨p,zac ..,Option.some.inj h,hq⟩
  |false =>
   rw[hq]at h;obtain⟨q,h1,h2⟩:=wN h;exact⟨q,zaa _ h1,h2⟩
def Vo:KK->KK->Bool
 |.str,.str=>true|.pair,.pair=>true|.int,.int=>true|.jj,.jj=>true|.mE,.mE=>true|.Ie,.Ie=>true|_,_=>false
theorem Pd {a b:KK}(h:Vo a b=true):a=b:=by cases a<;>cases b<;>first|rfl|cases h
def gT (cf:Cf)(kt:TypeId)(pk:KK):Bool:=cf.keys.any fun p=>Nat.beq p.1 kt&&Vo p.2 pk
def eX (cf:Cf):Prop:=∀p∈cf.keys,oY cf.P p.1 p.2
theorem ij {cf:Cf}{kt:TypeId}{pk:KK}(h:gT cf kt pk=true)(hk:eX cf):oY cf.P kt pk:=by
 obtain⟨p,h1,h2⟩:=List.any_eq_true.1 h;rw[za]at h2;have:=zab h2.1;subst this;have:=Pd h2.2;subst this;exact hk p h1
def gq (pk:KK)(x:SV):Bool:=match pk,x with
 |.str,.v false [x]=>(iT x).isSome
 |.mE,.v false [x]=>(iT x).isSome
 |.pair,.v true [x,y]=>(iT x).isSome&&(iT y).isSome
 |.int,.v false [.int k _]=>eE k
 |.jj,.v true [.int k _,.int k' _]=>eE k&&eE k'
 |.Ie,.v true [x,.int k _,.bool _]=>(iT x).isSome&&eE k
 |_,_=>false
theorem fY {pk:KK}{x:SV}(h:gq pk x=true)(ρ:aZ):cK pk (x.den ρ):=by
 unfold gq at h;split at h
 ·rename_i x;obtain⟨q,hq⟩:=Option.isSome_iff_exists.1 h;obtain⟨l,m,e,_⟩:=eW hq ρ;exact⟨l,m,e⟩
 ·rename_i x;obtain⟨q,hq⟩:=Option.isSome_iff_exists.1 h;obtain⟨l,m,e,_⟩:=eW hq ρ;exact⟨l,m,e,jC h e⟩
 ·rename_i x y;rw[za]at h;obtain⟨q,hq⟩:=Option.isSome_iff_exists.1 h.1;obtain⟨q',hq'⟩:=Option.isSome_iff_exists.1 h.2;obtain⟨l,m,e,_⟩:=eW hq ρ;obtain⟨l',m',e',_⟩:=eW hq' ρ;exact⟨l,m,l',m',by show AV.agg [x.den ρ,y.den ρ]=_;rw[e,e']⟩
 ·rename_i k e;have:=dT h;subst this;exact⟨_,rfl⟩
 ·rename_i k e k' e';rw[za]at h;have:=dT h.1;have:=dT h.2
  subst_vars
  exact⟨_,_,rfl⟩
 ·rename_i x k e b;rw[za]at h;obtain⟨q,hq⟩:=Option.isSome_iff_exists.1 h.1;obtain⟨l,m,e0,_⟩:=eW hq ρ;have:=dT h.2;subst this;exact⟨l,m,_,_,by show AV.agg [x.den ρ,.int .i64 _,.bool _]=_;rw[e0]⟩
 ·cases h
def sX:List (Nat×SC×LE)->Nat->SC->Option LE
 | [],_,_=>none
 |p::l,d,x=>bif Nat.beq p.1 d&&p.2.1.same x then some p.2.2 else sX l d x
theorem nY:∀{l:List (Nat×SC×LE)}{d:Nat}{x:SC}{e:LE},sX l d x=some e->∃x',(d,x',e)∈l/\∀ρ,x'.den ρ=x.den ρ
 | [],d,x,e,h=>by cases h
 |p::l,d,x,e,h=>by
  have h:(bif Nat.beq p.1 d&&p.2.1.same x then some p.2.2 else sX l d x)=some e:=h;cases hb:(Nat.beq p.1 d&&p.2.1.same x)with
  |true =>
   rw[hb]at h;cases h;rw[za]at hb;have:=zab hb.1;subst this;exact⟨p.2.1,zac ..,SC.aN hb.2⟩
  |false=>rw[hb]at h;obtain⟨x',h1,h2⟩:=nY h;exact⟨x',zaa _ h1,h2⟩
def yu (ok:Bool)(x:Bool×List SC):SV:=bif ok then .dC [x,(false,[.bool (.k true)])]else .v x.1 x.2
def ke (ok:Bool)(x:Bool×List SC):SV:=bif ok then .dC [x,(false,[.bool (.k false)])]else .v x.1 x.2
def TA (cf:Cf)(g b:Nat)(k:SV)(ok:Bool)(zr:Bool×List SC)(s:SS)(K:SV->SS->R):R:=match k,ghost s.gs g with
 |.v false [x],some d=>(match sX s.ats d x with
  |some e=>bif bo s e then K (yu ok (false,[.int .i64 e])) (aP s (((LE.a (.gn d b)).sub e).bk (-1)))else bif bo s ((LE.k (-1)).sub e)then K (ke ok zr) s else .bad 88 s
  |none=>bif x.lt s.nx&&Nat.blt d s.nx then (K (ke ok zr) (gk s (d,x,.k (-1)))).and (fresh s fun n s=>K (yu ok (false,[.int .i64 (.a (.n n))])) (gk (aP s (((LE.a (.gn d b)).sub (.a (.n n))).bk (-1))) (d,x,.a (.n n))))else .bad 92 s)
 |_,_=>.bad 93 s
def Rq (cf:Cf)(g:Nat)(mv:MV)(k:SV)(ok:Bool)(zr:Bool×List SC)(s:SS)(K:SV->SS->R):R:=match mv with
 |.kd kd=>bif bJ s.nx g&&Ke s.nx (ghost s.gs g)then (K (ke ok zr) s).and (qP cf g (ghost s.gs g) (.k 0) kd s fun x _ s=>K (yu ok (false,[x])) s)else .bad 91 s
 |.kn _ kd=>bif bJ s.nx g&&Ke s.nx (ghost s.gs g)then (K (ke ok zr) s).and (qP cf g (ghost s.gs g) (.k 0) kd s fun x _ s=>K (yu ok (false,[x])) s)else .bad 91 s
 |.unit=>(K (ke ok zr) s).and (K (yu ok (true,[])) s)
 |.F5 b=>TA cf g b k ok zr s K
 |.Ii=>(match k,ghost s.gs g with
  |.v true [x,_],some d=>bif x.lt s.nx&&Nat.blt d s.nx then (K (ke ok zr) s).and (fresh s fun j s=>fresh s fun f s=>fresh s fun n s=>K (yu ok (false,[.int .i64 (.a (.n n))])) (wF (gk (aP s (((LE.a (.n f)).sub (.a (.n n))).bk (-1))) (d,x,.a (.n j))) (d,.a (.n j),.a (.n f))))else .bad 92 s
  |_,_=>.bad 93 s)
def TB (cf:Cf)(t:TypeId)(m k:SV)(ok:Bool)(s:SS)(K:SV->SS->R):R:=match cf.P.underlying t with
 |some (.map kt et)=>(match (zeroOf cf.P et).bind sW with
  |some (.v ag cs)=>(match m with
   |.v false [.bg]=>bif gT cf kt .str&&gq .str k||(gT cf kt .pair&&gq .pair k||(gT cf kt .int&&gq .int k||gT cf kt .jj&&gq .jj k))then K (ke ok (ag,cs)) s else .bad 94 s
   |.v false [.ref y]=>(match BF s.ty y with
    |some (cc,g)=>bif gT cf kt (cf.Φ.pk cc)&&gq (cf.Φ.pk cc) k then Rq cf g (cf.Φ.mv cc) k ok (ag,cs) s K else .bad 95 s
    |none=>.bad 96 s)
   |_=>.bad 97 s)
  |_=>.bad 98 s)
 |_=>.bad 99 s
section
variable {c:Cx}{T:Tm}{G:GH}{Γ:dy}{ρ ρ':aZ}{s s':SS}{cf:Cf}{ops:Array Oper}{i:Nat}
theorem bq.Ge {P:Program}{n0 nt:Nat}{hp:Tr AO}{nx:Pz}{t kt et:TypeId}{ym yk:Operand}{ok:Bool}{pk:KK}{z k:AV}(hg:(af ops i).guard=none)(ho:(af ops i).op=.lookup t ym yk ok)(hu:P.underlying t=some (.map kt et))(hz:zeroOf P et=some z)(hM:oY P kt pk)
  (hm:bH nt T ym .bg) (hk:bH nt T yk k) (hkf:cK pk k):bq P ops n0 nt i T hp nx G (if ok then .dC [z,.bool false]else z):=by
 refine cY hg fun B w0 ι a w hs=>?_;have hval:=(hs.1.2 ι (al.refl _ _)).1;obtain⟨dd,hd⟩:=hM.Qx;obtain⟨_,zv,_,_,_,hzero⟩:=cJ hz;simp only[execOp,ho,Sem.run_bind];rw[hm ι a hval,hk ι a hval]
 have hfind:(Instr.findKey kt (ak ι k) (#[]:Array MapEntry).toList).run P w=.ok none w:=by
  simp[Instr.findKey,ay hd,Instr.findNow]
 simp only[ak,Instr.lookup,Sem.run_bind,ay hu,Result.andThen_ok,Sem.run_pure,hM.DR k hkf,hfind,hzero ι];cases ok<;>simp[ak,ao]
theorem kj (ok:Bool)(x:Bool×List SC)(ρ:aZ):(yu ok x).den ρ=(if ok then .dC [dS ρ x,.bool true]else dS ρ x):=by cases ok<;>rfl
theorem jO (ok:Bool)(x:Bool×List SC)(ρ:aZ):(ke ok x).den ρ=(if ok then .dC [dS ρ x,.bool false]else dS ρ x):=by cases ok<;>rfl
theorem IP {g b:Nat}{k:SV}{ok:Bool}{zr:Bool×List SC}{K:SV->SS->R}{es:List (AV×AV)}{z:AV}(h:(TA cf g b k ok zr s K).Ok)(hk:Ok c T G Γ ρ s)(hz:∀ρ,dS ρ zr=z)(hks:gq .str k=true)(hat:∀l n,bD (.str l n) es=((Γ.gd (ig ρ g)).at_ l n).map fun j=>.int .i64 (.ofNat j))(hb:∀l n j,(Γ.gd (ig ρ g)).at_ l n=some j->j<(Γ.gd (ig ρ g)).n b)
  (hl:bq c.P ops c.n0 c.nt i T c.hp c.nx G (match bD (k.den ρ) es with|some v=>(if ok then .dC [v,.bool true]else v)|none=>(if ok then .dC [z,.bool false]else z))):Lo c T G Γ ops i s ρ K:=by
 have miss:(K (ke ok zr) s).Ok->bD (k.den ρ) es=none->Lo c T G Γ ops i s ρ K:=fun h hf=>by
  rw[hf]at hl;exact Lo.here hk h (by rw[jO,hz];exact hl)
 unfold TA at h;split at h
 ·rename_i x d hgd;have hdd:=cR hgd hk;rw[hdd]at hat hb;obtain⟨l,m,ek⟩:=fY hks ρ;have ek':x.den ρ=.str l m:=ek;rw[ek,hat]at hl;cases ha:sX s.ats d x with
  |some e =>
   rw[ha]at h;simp only at h;obtain⟨x',m1,m2⟩:=nY ha;cases he:bo s e with
   |true =>
    rw[he]at h;have hpos:=ax he hk.sat;rcases hk.sat.ats _ m1 with ⟨q1,q2⟩|⟨q1,_⟩
    ·have q2:po (ρ d).gg (x'.den ρ)=some (e.ev ρ).toNat:=q2;have q1:0<=e.ev ρ:=q1;rw[m2 ρ,ek']at q2;have q2:(ρ d).gg.at_ l m=some (e.ev ρ).toNat:=q2;rw[q2]at hl;have hlt:=hb l m _ q2;refine Lo.to (s':=aP s (((LE.a (.gn d b)).sub e).bk (-1))) rfl (Lo.here (hk.aP ?_) h ?_)
     ·rw[LE.aO,LE.aw,LE.aQ];show 0<=(((ρ d).gg.n b:Nat):Int)-e.ev ρ+-1;omega
     rw[kj];have e1:dS ρ (false,[SC.int .i64 e])=.int .i64 (.ofNat (e.ev ρ).toNat):=by show AV.int .i64 (e.ev ρ)=_;congr 1;exact (zbp q1).symm
     rw[e1];exact hl
    ·have q1:e.ev ρ<0:=q1;omega
   |false =>
    rw[he]at h;simp only[cond_false]at h;cases he2:bo s ((LE.k (-1)).sub e)with
    |false=>rw[he2]at h;cases h
    |true =>
     rw[he2]at h;have hneg:=ax he2 hk.sat;rw[LE.aw,LE.bz]at hneg;rcases hk.sat.ats _ m1 with ⟨q1,_⟩|⟨_,q2⟩
     ·have q1:0<=e.ev ρ:=q1;omega
     ·have q2:po (ρ d).gg (x'.den ρ)=none:=q2;rw[m2 ρ,ek']at q2;have q2:(ρ d).gg.at_ l m=none:=q2;exact miss h (by rw[ek,hat,q2];rfl)
  |none =>
   rw[ha]at h;simp only at h;cases hbb:(x.lt s.nx&&Nat.blt d s.nx)with
   |false=>rw[hbb]at h;cases h
   |true =>
    rw[hbb]at h;simp only[cond_true]at h;rw[za]at hbb;obtain⟨h1,h2⟩:=R.gp h;cases hj:(ρ d).gg.at_ l m with
    |none =>
     rw[hj]at hl;refine Lo.to (s':=gk s (d,x,.k (-1))) rfl (Lo.here (hk.gk (p:=(d,x,.k (-1))) (.inr ⟨by rw[LE.bz];decide,?_⟩)) h1 (by rw[jO,hz];exact hl));show po (ρ d).gg (x.den ρ)=none;rw[ek'];exact hj
    |some j =>
     rw[hj]at hl;obtain⟨k1,k2,k3,k4⟩:=aA h2 hk (.n j);have hev:(LE.a (.n s.nx)).ev (ρ.up s.nx (.n j))=j:=by rw[LE.aQ];show ((ρ.up s.nx (.n j) s.nx).nn:Int)=j;rw[k4];rfl
     have hd2:=k2 d (av hbb.2);refine fI.mk k2 (zan _) ((k3.aP ?_).gk ?_) ⟨_,k1,?_⟩
     ·rw[LE.aO,LE.aw,hev,LE.aQ];show 0<=(((ρ.up s.nx (.n j) d).gg.n b:Nat):Int)-j+-1;rw[hd2];have:=hb l m j hj;omega
     ·refine .inl ?_;show 0<=(LE.a (.n s.nx)).ev _/\po (ρ.up s.nx (.n j) d).gg (x.den (ρ.up s.nx (.n j)))=some ((LE.a (.n s.nx)).ev _).toNat;rw[hev,hd2,SC.bG k2 hbb.1,ek'];exact⟨zde _,hj⟩
     ·rw[kj];have e1:dS (ρ.up s.nx (.n j)) (false,[SC.int .i64 (.a (.n s.nx))])=.int .i64 (.ofNat j):=by show AV.int .i64 ((LE.a (.n s.nx)).ev _)=_;rw[hev];rfl
      rw[e1];exact hl
 ·cases h
theorem CW {g:Nat}{cc:Nat}{k:SV}{ok:Bool}{zr:Bool×List SC}{K:SV->SS->R}{es:List (AV×AV)}{z:AV}(hΦ:cf.Φ=c.Φ)(h:(Rq cf g (c.Φ.mv cc) k ok zr s K).Ok)(hk:Ok c T G Γ ρ s)(hz:∀ρ,dS ρ zr=z)(hks:gq (c.Φ.pk cc) k=true)(hM:fP c.P c.Φ G Γ cc (ig ρ g) es)
  (hl:bq c.P ops c.n0 c.nt i T c.hp c.nx G (match bD (k.den ρ) es with|some v=>(if ok then .dC [v,.bool true]else v)|none=>(if ok then .dC [z,.bool false]else z))):Lo c T G Γ ops i s ρ K:=by
 obtain⟨hkeys,hM⟩:=hM
 have miss:(K (ke ok zr) s).Ok->bD (k.den ρ) es=none->Lo c T G Γ ops i s ρ K:=fun h hf=>by
  rw[hf]at hl;exact Lo.here hk h (by rw[jO,hz];exact hl)
 unfold Rq at h;cases hmv:c.Φ.mv cc with
 |kd kd =>
  rw[hmv]at h hM;simp only at h hM;cases hb:(bJ s.nx g&&Ke s.nx (ghost s.gs g))with
  |false=>rw[hb]at h;cases h
  |true =>
   rw[hb]at h;simp only[cond_true]at h;rw[za]at hb;obtain⟨h1,h2⟩:=R.gp h;cases hf:bD (k.den ρ) es with
   |none=>exact miss h1 hf
   |some v =>
    rw[hf]at hl;obtain⟨p,m1,rfl⟩:=jA hf;obtain⟨fs,kv,kf⟩:=hM p m1;refine (CK h2 hΦ hk hb.1 (J:=0) (fun dv hd=>?_) ⟨rfl,by rw[LE.bz];exact zch _,by rw[LE.bz];rfl⟩ kv kf).mono fun ρ' s' a1 n1 o1 hh=>?_
    ·have:=hb.2;rw[hd]at this;exact⟨av this,cR hd hk⟩
    ·obtain⟨x,o,g1,g2,_⟩:=hh;refine⟨_,g1,?_⟩;rw[kj];show bq _ _ _ _ _ _ _ _ _ (if ok then .dC [x.den ρ',.bool true]else x.den ρ');rw[g2];exact hl
 |kn bd kd =>
  rw[hmv]at h hM;simp only at h hM;have hM:=hM.2;cases hb:(bJ s.nx g&&Ke s.nx (ghost s.gs g))with
  |false=>rw[hb]at h;cases h
  |true =>
   rw[hb]at h;simp only[cond_true]at h;rw[za]at hb;obtain⟨h1,h2⟩:=R.gp h;cases hf:bD (k.den ρ) es with
   |none=>exact miss h1 hf
   |some v =>
    rw[hf]at hl;obtain⟨p,m1,rfl⟩:=jA hf;obtain⟨fs,kv,kf⟩:=hM p m1;refine (CK h2 hΦ hk hb.1 (J:=0) (fun dv hd=>?_) ⟨rfl,by rw[LE.bz];exact zch _,by rw[LE.bz];rfl⟩ kv kf).mono fun ρ' s' a1 n1 o1 hh=>?_
    ·have:=hb.2;rw[hd]at this;exact⟨av this,cR hd hk⟩
    ·obtain⟨x,o,g1,g2,_⟩:=hh;refine⟨_,g1,?_⟩;rw[kj];show bq _ _ _ _ _ _ _ _ _ (if ok then .dC [x.den ρ',.bool true]else x.den ρ');rw[g2];exact hl
 |unit =>
  rw[hmv]at h hM;simp only at h hM;obtain⟨h1,h2⟩:=R.gp h;cases hf:bD (k.den ρ) es with
  |none=>exact miss h1 hf
  |some v =>
   rw[hf]at hl;obtain⟨p,m1,rfl⟩:=jA hf;rw[hM p m1]at hl;exact Lo.here hk h2 (by rw[kj];exact hl)
 |F5 b =>
  rw[hmv]at h hM;simp only at h hM;obtain⟨_,hpk,_,hat,hb⟩:=hM;rw[hpk]at hks;exact IP h hk hz hks hat hb hl
 |Ii =>
  rw[hmv]at h hM;simp only at h hM;obtain⟨hpk,_,hrs,hfi⟩:=hM;split at h
  ·rename_i x y d hgd;have hdd:=cR hgd hk;rw[hdd]at hrs hfi;rw[hpk]at hks;obtain⟨l,m,l2,m2,ek⟩:=fY hks ρ;have ek0:AV.agg [x.den ρ,y.den ρ]=.agg [.str l m,.str l2 m2]:=ek;have ek':x.den ρ=.str l m:=by injection ek0 with e;exact (List.cons.inj e).1
   cases hbb:(x.lt s.nx&&Nat.blt d s.nx)with
   |false=>rw[hbb]at h;cases h
   |true =>
    rw[hbb]at h;simp only[cond_true]at h;rw[za]at hbb;obtain⟨h1,h2⟩:=R.gp h;cases hf:bD (SV.den ρ (SV.v true [x,y])) es with
    |none=>exact miss h1 hf
    |some v =>
     rw[hf]at hl;obtain⟨p,m1,rfl,m3⟩:=wN hf;obtain⟨a,an,b,bn,q,j,e1,e2,e3,e4,e5⟩:=hfi p m1;rw[ek,e1]at m3;have m3:(aR l m a an&&aR l2 m2 b bn)=true:=m3;rw[za]at m3;have hat:(ρ d).gg.at_ l m=some j:=by rw[hrs l m a an m3.1];exact e4
     obtain⟨k1,k2,k3,k4⟩:=aA h2 hk (.n j);obtain⟨r1,r2,r3,r4⟩:=aA k1 k3 (.n ((ρ d).gg.fl j));obtain⟨t1,t2,t3,t4⟩:=aA r1 r3 (.n q);have hd:=av hbb.2;have A:cM s.nx ρ (((ρ.up s.nx (.n j)).up (s.nx+1) (.n ((ρ d).gg.fl j))).up (s.nx+2) (.n q)):=fun w hw=>by simp only[aZ.up];rw[if_neg (by omega),if_neg (by omega),if_neg (by omega)]
     have v1:(LE.a (.n s.nx)).ev (((ρ.up s.nx (.n j)).up (s.nx+1) (.n ((ρ d).gg.fl j))).up (s.nx+2) (.n q))=j:=by rw[LE.aQ];simp[At.ev,aZ.up,U.nn]
     have v2:(LE.a (.n (s.nx+1))).ev (((ρ.up s.nx (.n j)).up (s.nx+1) (.n ((ρ d).gg.fl j))).up (s.nx+2) (.n q))=((ρ d).gg.fl j:Nat):=by rw[LE.aQ];simp[At.ev,aZ.up,U.nn]
     have v3:(LE.a (.n (s.nx+2))).ev (((ρ.up s.nx (.n j)).up (s.nx+1) (.n ((ρ d).gg.fl j))).up (s.nx+2) (.n q))=q:=by rw[LE.aQ];simp[At.ev,aZ.up,U.nn]
     refine fI.mk A (by show s.nx<=s.nx+1+1+1;omega) (((t3.aP (e:=((LE.a (.n (s.nx+1))).sub (.a (.n (s.nx+2)))).bk (-1)) ?_).gk (p:=(d,x,.a (.n s.nx))) ?_).wF (p:=(d,.a (.n s.nx),.a (.n (s.nx+1)))) ?_) ⟨_,t1,?_⟩
     ·refine Eq.subst (motive:=fun y=>0<=y) (LE.aO _ _ _).symm ?_;rw[LE.aw];have v2':=v2;have v3':=v3;show 0<=(LE.a (.n (s.nx+1))).ev _-(LE.a (.n (s.nx+2))).ev _+-1;refine le_of_le_of_eq (b:=((ρ d).gg.fl j:Int)-q+-1) (by omega) ?_;congr 2
      ·exact v2.symm
      ·exact v3.symm
     ·refine .inl ?_;show 0<=(LE.a (.n s.nx)).ev _/\po _ _=some ((LE.a (.n s.nx)).ev _).toNat;refine⟨by show 0<=(LE.a (.n s.nx)).ev (((ρ.up s.nx (.n j)).up (s.nx+1) (.n ((ρ d).gg.fl j))).up (s.nx+2) (.n q));rw[v1];exact zde _,?_⟩;show po ((((ρ.up s.nx (.n j)).up (s.nx+1) (.n ((ρ d).gg.fl j))).up (s.nx+2) (.n q)) d).gg (x.den (((ρ.up s.nx (.n j)).up (s.nx+1) (.n ((ρ d).gg.fl j))).up (s.nx+2) (.n q)))=some ((LE.a (.n s.nx)).ev (((ρ.up s.nx (.n j)).up (s.nx+1) (.n ((ρ d).gg.fl j))).up (s.nx+2) (.n q))).toNat;rw[v1,A d hd,SC.bG A hbb.1,ek'];exact hat
     ·show 0<=(LE.a (.n s.nx)).ev (((ρ.up s.nx (.n j)).up (s.nx+1) (.n ((ρ d).gg.fl j))).up (s.nx+2) (.n q))/\((((ρ.up s.nx (.n j)).up (s.nx+1) (.n ((ρ d).gg.fl j))).up (s.nx+2) (.n q)) d).gg.fz=true/\((((((ρ.up s.nx (.n j)).up (s.nx+1) (.n ((ρ d).gg.fl j))).up (s.nx+2) (.n q)) d).gg.fl ((LE.a (.n s.nx)).ev (((ρ.up s.nx (.n j)).up (s.nx+1) (.n ((ρ d).gg.fl j))).up (s.nx+2) (.n q))).toNat:Nat):Int)=(LE.a (.n (s.nx+1))).ev (((ρ.up s.nx (.n j)).up (s.nx+1) (.n ((ρ d).gg.fl j))).up (s.nx+2) (.n q));rw[v1,v2,A d hd];exact⟨zde _,e3,rfl⟩
     ·rw[kj];have ee:dS (((ρ.up s.nx (.n j)).up (s.nx+1) (.n ((ρ d).gg.fl j))).up (s.nx+2) (.n q)) (false,[SC.int .i64 (.a (.n (s.nx+2)))])=.int .i64 (.ofNat q):=by show AV.int .i64 ((LE.a (.n (s.nx+2))).ev _)=_;rw[v3];rfl
      rw[e2]at hl;show bq _ _ _ _ _ _ _ _ _ (if ok then .dC [dS (((ρ.up s.nx (.n j)).up (s.nx+1) (.n ((ρ d).gg.fl j))).up (s.nx+2) (.n q)) (false,[SC.int .i64 (.a (.n (s.nx+2)))]),.bool true]else dS (((ρ.up s.nx (.n j)).up (s.nx+1) (.n ((ρ d).gg.fl j))).up (s.nx+2) (.n q)) (false,[SC.int .i64 (.a (.n (s.nx+2)))]));rw[ee];exact hl
  ·cases h
theorem IQ {t:TypeId}{x y:Operand}{v u:SV}{ok:Bool}{K:SV->SS->R}(ho:(af ops i).op=.lookup t x y ok)(hg:(af ops i).guard=none)(hP:cf.P=c.P)(hΦ:cf.Φ=c.Φ)(hK:eX cf)(h:(TB cf t v u ok s K).Ok)(hk:Ok c T G Γ ρ s)(hx:bH c.nt T x (v.den ρ))(hy:bH c.nt T y (u.den ρ)):Lo c T G Γ ops i s ρ K:=by
 unfold TB at h;rw[hP]at h;split at h
 ·rename_i kt et hu;split at h
  ·rename_i ag cs hz;cases hzz:zeroOf c.P et with
   |none=>rw[hzz]at hz;cases hz
   |some zz =>
    rw[hzz]at hz;have hz:sW zz=some (.v ag cs):=hz;have hz1:∀ρ,dS ρ (ag,cs)=zz:=fun ρ=>jc hz ρ;split at h
    ·have key:∀pk,gT cf kt pk=true->gq pk u=true->(K (ke ok (ag,cs)) s).Ok->Lo c T G Γ ops i s ρ K:=fun pk h1 h2 h=>by
       have hMt:=ij h1 hK;rw[hP]at hMt;exact Lo.here hk h (by rw[jO,hz1];exact bq.Ge hg ho hu hzz hMt hx hy (fY h2 ρ))
     cases hb:(gT cf kt .str&&gq .str u||(gT cf kt .pair&&gq .pair u||(gT cf kt .int&&gq .int u||gT cf kt .jj&&gq .jj u)))with
     |false=>rw[hb]at h;cases h
     |true =>
      rw[hb]at h;simp only[zar,za]at hb;rcases hb with ⟨h1,h2⟩|⟨h1,h2⟩|⟨h1,h2⟩|⟨h1,h2⟩
      ·exact key _ h1 h2 h
      ·exact key _ h1 h2 h
      ·exact key _ h1 h2 h
      ·exact key _ h1 h2 h
    ·rename_i q;cases hm:BF s.ty q with
     |none=>rw[hm]at h;cases h
     |some p =>
      obtain⟨cc,g⟩:=p;rw[hm]at h;simp only at h;rw[hΦ]at h;cases hb:(gT cf kt (c.Φ.pk cc)&&gq (c.Φ.pk cc) u)with
      |false=>rw[hb]at h;cases h
      |true =>
       rw[hb]at h;rw[za]at hb;have hMt:=ij hb.1 hK;rw[hP]at hMt;obtain⟨b,q1,q2⟩:=hk.ty (j9 hm);obtain⟨_,es,r1,r2,r3⟩:=hk.q.ht.b _ _ q2;have hx:bH c.nt T x (.cV b):=by have hx:bH c.nt T x (ρ q).vv:=hx;rw[q1]at hx;exact hx
       exact CW hΦ h hk hz1 hb.2 r3 (bq.lookup hg ho hu hzz hMt hx hy (fY hb.2 ρ) r1 r3.1)
    ·cases h
  ·cases h
 ·cases h
end
end Go.Rd
namespace Go.Rd
open Go.aI Go.RowKit Go.Rt
def wv (s:SS)(x:Operand)(K:SV->R):R:=match GX s x with|some v=>K v|none=>.bad 10 s
def Uu (cf:Cf)(o:Op)(s:SS)(K:SV->SS->R):R:=match o with
 |.move x=>wv s x fun v=>K v s
 |.assign x=>wv s x fun v=>K v s
 |.extract x k=>wv s x fun v=>Um v k s K
 |.field t x f=>wv s x fun v=>Un cf t v f s K
 |.pick x a b=>wv s x fun v=>Uo v (GX s a) (GX s b) s K
 |.build t ps=>Up cf t ps.toList s K
 |.unOp .not _ x=>wv s x fun v=>Uq v s K
 |.binOp op t x y _=>wv s x fun v=>wv s y fun u=>Ul cf op t v u s K
 |.fieldAddr t (.tmp x) f=>wv s (.tmp x) fun v=>Ri cf t v f s K
 |.nilCheck (.tmp x)=>wv s (.tmp x) fun v=>Rj v s K
 |.load t (.tmp x)=>wv s (.tmp x) fun v=>Ro cf t v s K
 |.indexAddr t (.tmp x) y=>wv s (.tmp x) fun v=>wv s y fun u=>Rm cf t v u s K
 |.lookup t x y ok=>wv s x fun v=>wv s y fun u=>TB cf t v u ok s K
 |.index t x y=>wv s x fun v=>wv s y fun u=>Us cf t v u s K
 |.slice t x none (some (.tmp y)) none=>wv s x fun v=>wv s (.tmp y) fun u=>Ut cf t v u s K
 |.convert t t' x=>wv s x fun v=>Ur cf t t' v s K
 |.call cl=>(match cl.callee,cl.args.toList,cl.argTypes.toList with
  |.builtin .len,[x],t::_=>wv s x fun v=>Rp cf t v s K
  |_,_,_=>.bad 12 s)
 |_=>.bad 11 s
section
variable {c:Cx}{T:Tm}{G:GH}{Γ:dy}{ρ ρ':aZ}{s s':SS}{cf:Cf}{ops:Array Oper}{i:Nat}
theorem cn {x:Operand}{K:SV->R}(h:(wv s x K).Ok)(hk:Ok c T G Γ ρ s):∃v,(K v).Ok/\GX s x=some v/\bH c.nt T x (v.den ρ):=by
 unfold wv at h;cases hx:GX s x with
 |none=>rw[hx]at h;cases h
 |some v=>rw[hx]at h;exact⟨v,h,rfl,pq hx hk.q⟩
theorem Pe {K:SV->SS->R}(hg:(af ops i).guard=none)(hP:cf.P=c.P)(hΦ:cf.Φ=c.Φ)(hK:eX cf)(h:(Uu cf (af ops i).op s K).Ok)(hk:Ok c T G Γ ρ s):Lo c T G Γ ops i s ρ K:=by
 unfold Uu at h;split at h
 ·rename_i x ho;obtain⟨v,h,_,e⟩:=cn h hk;exact Lo.here hk h (bq.Rb hg (.inl ho) e)
 ·rename_i x ho;obtain⟨v,h,_,e⟩:=cn h hk;exact Lo.here hk h (bq.Rb hg (.inr ho) e)
 ·rename_i ho;obtain⟨v,h,_,e⟩:=cn h hk;exact O5 ho hg h hk e
 ·rename_i ho;obtain⟨v,h,_,e⟩:=cn h hk;exact O6 ho hg hP h hk e
 ·rename_i ho;obtain⟨v,h,_,e⟩:=cn h hk;exact O7 ho hg h hk e (fun u hu=>pq hu hk.q) (fun u hu=>pq hu hk.q)
 ·rename_i ho;exact O8 ho hg hP h hk
 ·rename_i ho;obtain⟨v,h,_,e⟩:=cn h hk;exact O9 ho hg h hk e
 ·rename_i ho;obtain⟨v,h,_,e⟩:=cn h hk;obtain⟨u,h,_,e'⟩:=cn h hk;exact O3 ho hg hP h hk e e'
 ·rename_i ho;obtain⟨v,h,e0,e⟩:=cn h hk;exact CN ho hg hP h hk (gF e0 hk.q)
 ·rename_i ho;obtain⟨v,h,e0,e⟩:=cn h hk;exact CO ho hg h hk (gF e0 hk.q)
 ·rename_i ho;obtain⟨v,h,e0,e⟩:=cn h hk;exact CT ho hg hP hΦ h hk (gF e0 hk.q)
 ·rename_i ho;obtain⟨v,h,e0,e⟩:=cn h hk;obtain⟨u,h,_,e'⟩:=cn h hk;exact CQ ho hg hP hΦ h hk (gF e0 hk.q) e'
 ·rename_i ho;obtain⟨v,h,_,e⟩:=cn h hk;obtain⟨u,h,_,e'⟩:=cn h hk;exact IQ ho hg hP hΦ hK h hk e e'
 ·rename_i ho;obtain⟨v,h,_,e⟩:=cn h hk;obtain⟨u,h,_,e'⟩:=cn h hk;exact Pb ho hg hP h hk e e'
 ·rename_i ho;obtain⟨v,h,_,e⟩:=cn h hk;obtain⟨u,h,e0,e'⟩:=cn h hk;exact Pc ho hg hP hΦ h hk e (gF e0 hk.q)
 ·rename_i ho;obtain⟨v,h,_,e⟩:=cn h hk;exact Pa ho hg hP h hk e
 ·rename_i cl ho;split at h
  ·rename_i x t ats h1 h2 h3;obtain⟨v,h,_,e⟩:=cn h hk;exact CU ho h1 h3 h2 hg hP h hk e
  ·cases h
 ·cases h
theorem Lo.map {ops':Array Oper}{K:SV->SS->R}(h:Lo c T G Γ ops' i s ρ K)(hh:∀v,bq c.P ops' c.n0 c.nt i T c.hp c.nx G v->bq c.P ops c.n0 c.nt i T c.hp c.nx G v):Lo c T G Γ ops i s ρ K :=
 fI.mono h fun ρ' s' a n o hx=>by obtain⟨v,h1,h2⟩:=hx;exact⟨v,h1,hh _ h2⟩
theorem wP (ops:Array Oper)(i:Nat):(af (yb ops) i).guard=none:=by rw[jN]
theorem IU (ops:Array Oper)(i:Nat):(af (yb ops) i).op=(af ops i).op:=by rw[jN]
theorem Ed (ops:Array Oper)(i:Nat):(af (yb ops) i).dst=(af ops i).dst:=by rw[jN]
end
end Go.Rd
namespace Go.aI
open Go.RowKit
section
variable {P:Program}
theorem rJ {ts tx e:TypeId}{i:TypeInfo}{z:Value}{d:TypeDesc}(hT:KF P ts tx e i z d){ty:TypeId}{w:World}{base:Option Addr}{len cap n:Nat}{x:Value}{old nw:List Value}
  (hx:(Builtin.lenOf x).run P w=.ok n w) (hf:(Builtin.firstCells (ae P e) n x).run P w.drew=.ok nw.toArray w.drew)
  (ho:(Builtin.firstCells (ae P e) len (.slice base len cap)).run P w.drew=.ok old.toArray w.drew) (hn:cap<len+n) (hsm:(16*(len+n)+12288)*i.bytes<=281474976710656) (hsl:len+n<=2199023255552) :
  ∃c rest,len+n<=c/\(Builtin.append_ #[ts,tx] ty #[.slice base len cap,x]).run P w=.ok (.slice (some ⟨w.heap.size,0,none⟩) (len+n) c) (w.drew.alloc (.cells (old++nw++rest).toArray e (0,0)))/\rest.length=(c-(len+n))*z.cells.size:=by
 have htx:=hT.tx;have hni:=hT.ni;have hcap:=tT hn;have hb:Builtin.nextslicecap (len+n) cap*i.bytes<=(16*(len+n)+12288)*i.bytes:=zae _ hcap
 have hmax:¬(((len+n:Nat):Int) > IntKind.i64.max/\i.bytes=0):=by
  have:IntKind.i64.max=9223372036854775807:=by decide
  rw[this];omega
 have ee:∀Z:Array Value,old.toArray++nw.toArray++Z=(old++nw++Z.toList).toArray:=fun Z=>by apply Array.ext';simp
 have hbig:¬Builtin.nextslicecap (len+n) cap*i.bytes > 2 ^ 48:=by omega
 refine⟨(Question.appendCap (len+n) cap e).cut (w.tape w.drawn (.appendCap (len+n) cap e)),(Builtin.zeroCells z.cells ((Question.appendCap (len+n) cap e).cut (w.tape w.drawn (.appendCap (len+n) cap e))-(len+n))).toList,?_,?_,?_⟩
 ·simp only[Question.cut];omega
 ·cases d
  case int=>exact absurd rfl (hni _)
  all_goals
   simp only[Builtin.append_,zao,zbf,zbm];simp only[Sem.run_bind,ay hT.ts,ay htx,Result.andThen_ok,Sem.run_pure,dE hT.inf,zag,if_false,hx,Sem.run_ite];rw[if_neg (by omega)];simp only[Sem.run_bind,nP hT.inf,Result.andThen_ok,Sem.run_ite,false_or,if_neg hmax,if_neg hbig];simp only[Sem.run_bind,run_choose,Question.forced,zag,if_false,Result.andThen_ok,run_askRoom];have e1:({ w with drawn:=w.drawn+1 }:World)=w.drew:=rfl;simp only[e1,Sem.run_pure,Result.andThen_ok,nP hT.inf,zeo,if_true,ho,hf,run_askRoom,Sem.run_bind,zeroValue,hT.Vg,newRow,run_newObj,ee];rfl
 ·simp[Builtin.zeroCells]
end
section
variable {P:Program}{n0 nt:Nat}{T T2:Tm}{hp H:Tr AO}{nx X:Pz}{G:GH}{ops:Array Oper}{aF:List Nat}{i m d:Nat}{v u:AV}
theorem gm.yw {c:Call}{ts tx e:TypeId}{ys yx:Operand}{len m:Nat}{E L:List AV}{d0:TypeDesc}{z:AV}{R:Tm->Tr AO->Pz->GH->Prop}(hg:(af ops i).guard=none)(hd:(af ops i).dst=some d)(hlt:d<nt)
  (ho:(af ops i).op=.call c) (hc:c.callee=.builtin .append) (ht:c.argTypes.toList=[ts,tx]) (hx:c.args.toList=[ys,yx]) (hts:P.underlying ts=some (.slice e)) (htx:P.underlying tx=some d0) (hni:∀k,d0≠.int k)
  (hz:zeroOf P e=some z) (hgz:(Nat.ble (P.bytesOf e) 1000000&&(Nat.beq z.cells.length (ae P e)&&Nat.blt 0 (ae P e)))=true) (hsv:bH nt T ys v) (hxv:bH nt T yx u)
  (hs:Ext G v e (ae P e) len E) (hE:lC E) (hsrc:AK P n0 nt T hp nx G (ae P e) m u L) (hsm:(16*(len+m)+12288)*P.bytesOf e<=281474976710656) (hsl:len+m<=2199023255552)
  (hr:∀v' G',K1 n0 G G' v v' e (ae P e) len m E L->nf v'->R (T.put d v') hp nx G'):gm P n0 nt ops i T hp nx G R:=by
 intro B w0 ι a w hsat;refine .inl ⟨by simp[Region.wanted,hg],?_⟩;rw[hd];have hval:=(hsat.1.2 ι (al.refl _ _)).1;obtain⟨j,zv,q1,q2,q3,q4⟩:=cJ hz;simp only[za]at hgz;obtain⟨g1,g2,g3⟩:=hgz;have g1:=aK g1;have g2:=ai g2;have g3:=av g3;have hbytes:P.bytesOf e=j.bytes:=by unfold Program.bytesOf;rw[q1];rfl
 have hT:KF P ts tx e j zv d0:=⟨hts,htx,hni,q1,q2,by omega⟩;have hzs:zv.cells.size=ae P e:=by rw[<-eR 8 zv z q3 ι,bZ];simp[aq,g2]
 have hrun:(execOp a.eval (af ops i)).run P w=((Builtin.append_ #[ts,tx] (af ops i).type #[a.eval ys,a.eval yx]).run P w).andThen fun v w'=>.ok (.value v) w':=tX ho hc ht hx (fun _ _ _ _=>rfl);obtain⟨hL1,hL2,hL4,hL3⟩:=hsrc;obtain⟨hl1,hl2⟩:=hL3 B w0 ι a w hsat;obtain⟨hl3,hl4⟩:=hL3 B w0 ι a w.drew (wB hsat);have hev:a.eval yx=ak ι u:=hxv ι a hval;have hfl:∀v∈ao ι L,vk v=true:=jw ι _ hL4
 -- a new block
 have grow:∀(base:Option Addr) (cap:Nat),a.eval ys=.slice base len cap->cap<len+m->E.length=len*ae P e->(Builtin.firstCells (ae P e) len (.slice base len cap)).run P w.drew=.ok (ao ι E).toArray w.drew ->
   dh P (execOp a.eval (af ops i)) w fun cv w'=>∃T' hp' nx' G' ι2,R T' hp' nx' G'/\c8 n0 B w0 nt T' hp' nx' G' ι2 (a.put (some d) cv) w':=by
  intro base cap hsv hcap hEl hold;obtain⟨c',rest,hc1,hc2,hc3⟩:=rJ hT (ty:=(af ops i).type) (base:=base) (len:=len) (cap:=cap) (x:=ak ι u) (old:=ao ι E) (nw:=ao ι L) hl1 hl4 hold hcap (by rw[hbytes]at hsm;exact hsm) hsl
  have hnew:=Ib (kd:=.data) (A:=(ao ι E++ao ι L++rest).toArray) (el:=e) (C:=E++L) hsat (iB hE hL2) (by simp[aq]) (fun i hi=>by
   rw[<-fe,zao,zau (by rw[aq];exact hi),bu])
  obtain⟨hsn,hn1,hn2⟩:=hnew;have hlen:(E++L).length=(len+m)*ae P e:=by rw[zak,hEl,hL1,zbh]
  refine .inl ⟨.slice (some ⟨w.heap.size,0,none⟩) (len+m) c',_,.inl (by rw[hrun,hsv,hev,hc2];rfl),T.put d (.cN w.heap.size 0 (len+m) c'),hp,nx,dj G w.heap.size (.cells .data e (ao ι E++ao ι L++rest).toArray.size (E++L)),ι,hr _ _ (.inr (.inr ⟨w.heap.size,c',_,hn1,hn2,rfl,hc1,?_,rfl⟩)) (ja _ _ _ _),?_⟩
  ·simp only[zec,zak,aq,hEl,hL1,hc3,hzs];rw[<-zbh,<-zbh];exact zae _ (by omega)
  ·exact gz hsn hlt (ja _ _ _ _) (by simp[ak,gL])
 rcases hs with ⟨rfl,rfl,rfl⟩|⟨b,o,cap,size,C,rfl,hb,hoC,hdrop,hsz,hlc⟩
 ·have hsv:a.eval ys=.slice none 0 0:=by rw[hsv ι a hval];simp[ak]
  by_cases hm0:m=0
  ·subst hm0;have hL0:L=[]:=List.length_eq_zero_iff.1 (by rw[hL1];simp);subst hL0;have:=mz hT (ty:=(af ops i).type) (x:=ak ι u) (nw:=ao ι []) hl1 hl2;refine .inl ⟨.slice none 0 0,w,.inl (by rw[hrun,hsv,hev,this];rfl),T.put d .ab,hp,nx,G,ι,hr _ _ (.inl ⟨rfl,rfl,rfl,rfl,rfl⟩) lY,gz hsat hlt lY (by simp[ak,gL])⟩
  ·exact grow none 0 hsv (by omega) (by simp) (by simp[Builtin.firstCells,ao])
 ·have hsv:a.eval ys=.slice (some (pS b o len cap)) len cap:=by rw[hsv ι a hval];simp[ak]
  obtain⟨hnC,A,fz,h1,h2,h3,h4,h5⟩:=hsat.2.1 b _ hb;obtain⟨hnB,hfz⟩:=h5 (fun e=>by cases e);have hEl:E.length=len*ae P e:=by rw[<-hdrop,zaf,zas];omega
  by_cases hcap:len+m<=cap
  ·have HW:(len+m)*ae P e<=cap*ae P e:=zae _ hcap;rw[zbh]at HW;have hcan:lQ w b (o+len*ae P e) (ao ι L).length:=by rw[aq,hL1];exact kT h1 (by omega) hfz
   have hrun2:=sN hT (ty:=(af ops i).type) (b:=b) (o:=o) (len:=len) (cap:=cap) (x:=ak ι u) (nw:=ao ι L) (by rw[aq,hL1]) hl1 hl2 hcap hfl hcan
   have hnb:∀id ob,hp.get id=some ob->own hp ob->ι.aS id≠b:=fun id ob hid hown e=>by
    have:=hsat.2.2.1 id ob hid hown;rw[e,hb]at this;cases this
   have hk:Kept (fun k=>B k∨vt hp ι k) w (bm w b (o+len*ae P e) (ao ι L)):=eN _ _ _ _ (by
    rintro (hB|⟨id,ob,hid,hown,e⟩)
    ·exact hnB hB
    ·exact hnb id ob hid hown e) (Kept.refl _ _)
   have hgh:qA B (bm w b (o+len*ae P e) (ao ι L)) b (.cells .data e size (nD C (o+len*ae P e) L)):=by
    refine⟨iB (iB (AA _ hnC) hL2) (AB _ hnC),ei A (o+len*ae P e) (ao ι L),fz,de (ao ι L) w b (o+len*ae P e) A e fz h1,by rw[bp];exact h2,?_,fun k hk' _ ι'=>?_,fun _=>⟨hnB,by rw[bp];exact hfz⟩⟩
    ·rw[mc hoC,hL1];omega
    ·rw[mc hoC]at hk';rw[dM _ _ _ _ (by rw[aq,hL1];omega),rn hoC,aq];by_cases hlo:o+len*ae P e<=k/\k<o+len*ae P e+L.length
     ·rw[if_pos hlo,if_pos hlo,bu];cases hc':L[k-(o+len*ae P e)]? with
      |none=>rfl
      |some q=>exact congrArg some (hL2 q (zba hc') ι ι')
     ·rw[if_neg hlo,if_neg hlo];exact h4 k (by omega) (fun h=>by cases h) ι'
   have hsn:=lj (b:=b) (g:=.cells .data e size (nD C (o+len*ae P e) L)) hsat hk (fun k g' hne _=>gM _ _ _ _ _ hne) hgh hnb;exact .inl ⟨.slice (some (pS b o (len+m) cap)) (len+m) cap,_,.inl (by rw[hrun,hsv,hev,hrun2];rfl),T.put d (.cN b o (len+m) cap),hp,nx,_,ι,hr _ _ (.inr (.inl ⟨b,o,cap,size,C,rfl,hb,rfl,hcap,hsz,hoC,rfl⟩)) (ja _ _ _ _),gz hsn hlt (ja _ _ _ _) (by simp[ak,gL])⟩
  ·exact grow _ cap hsv (by omega) hEl (by
     rw[kW (l:=ao ι E) (by rw[aq,hEl]) fun j hj=>?_];show (w.drew).cell? _=_
     rw[show (w.drew).cell? ⟨b,o+j,none⟩=w.cell? ⟨b,o+j,none⟩from rfl,iC hsat hb _ (by omega),bu,<-hdrop,zbd hj,zbb])
theorem qH {kd:BK}{el:TypeId}{C:List AV}{B:Nat->Prop}{w0 w:World}{ι:En}{a:Act}(hs:c8 n0 B w0 nt T hp nx G ι a w)(hC:lC C) :
  c8 n0 B w0 nt T hp nx (dj G w.heap.size (.cells kd el C.length C)) ι a (w.alloc (.cells (ao ι C).toArray el (0,0)))/\n0<=w.heap.size/\G w.heap.size=none:=by
 refine DS (g:=.cells kd el C.length C) (y:=.cells (ao ι C).toArray el (0,0)) hs fun hB=>?_;refine⟨hC,_,(0,0),bO w _,by simp[aq],zad _,fun q hq _ ι'=>?_,fun _=>⟨fun h=>absurd (hB _ h) (by omega),.inl rfl⟩⟩;rw[zao,bu];cases hc':C[q]? with
 |none=>rfl
 |some x=>exact congrArg some (hC x (zba hc') _ _)
theorem gm.Pf (kd:BK){e:TypeId}{z:AV}{R:Tm->Tr AO->Pz->GH->Prop}(hg:(af ops i).guard=none)(hd:(af ops i).dst=some d)(hlt:d<nt)(ho:(af ops i).op=.alloc e)(hz:zeroOf P e=some z)(hnf:lC z.cells)
  (hr:∀b,n0<=b->G b=none->R (T.put d (.cu b 0)) hp nx (dj G b (.cells kd e z.cells.length z.cells))):gm P n0 nt ops i T hp nx G R:=by
 intro B w0 ι a w hs;refine .inl ⟨by simp[Region.wanted,hg],?_⟩;rw[hd];obtain⟨j,zv,h1,h2,h3,h4⟩:=cJ hz
 have hrun:(execOp a.eval (af ops i)).run P w=.ok (.value (.pointer (some ⟨w.heap.size,0,none⟩))) (w.alloc (.cells (ao ι z.cells).toArray e (0,0))):=by
  simp only[execOp,ho,Instr.alloc,Sem.run_bind,h4 ι,Result.andThen_ok,newVar,newRow,run_newObj,Sem.run_pure,bZ];rfl
 obtain⟨q1,q2,q3⟩:=qH (kd:=kd) (el:=e) hs hnf;exact .inl ⟨_,_,.inl hrun,_,_,_,_,ι,hr _ q2 q3,gz q1 hlt (oW _ _) (by simp[ak,gL])⟩
theorem gm.Uv (kd:BK){e:TypeId}{x:Operand}{R:Tm->Tr AO->Pz->GH->Prop}(hg:(af ops i).guard=none)(hd:(af ops i).dst=some d)(hlt:d<nt)(ho:(af ops i).op=.box e x)(hx:bH nt T x v)(hnf:lC v.cells)
  (hr:∀b,n0<=b->G b=none->R (T.put d (.cu b 0)) hp nx (dj G b (.cells kd e v.cells.length v.cells))):gm P n0 nt ops i T hp nx G R:=by
 intro B w0 ι a w hs;refine .inl ⟨by simp[Region.wanted,hg],?_⟩;rw[hd]
 have hrun:(execOp a.eval (af ops i)).run P w=.ok (.value (.pointer (some ⟨w.heap.size,0,none⟩))) (w.alloc (.cells (ao ι v.cells).toArray e (0,0))):=by
  simp only[execOp,ho];rw[hx ι a (hs.1.2 ι (al.refl _ _)).1];simp only[Instr.box,Sem.run_bind,Result.andThen_ok,newVar,newRow,run_newObj,Sem.run_pure,bZ];rfl
 obtain⟨q1,q2,q3⟩:=qH (kd:=kd) (el:=e) hs hnf;exact .inl ⟨_,_,.inl hrun,_,_,_,_,ι,hr _ q2 q3,gz q1 hlt (oW _ _) (by simp[ak,gL])⟩
theorem gm.sx (kd:BK){t e:TypeId}{len:Nat}{z:AV}{ps:Array (Nat×Operand)}{vs:List (Nat×AV)}{cs:List AV}{R:Tm->Tr AO->Pz->GH->Prop}(hg:(af ops i).guard=none)(hd:(af ops i).dst=some d)(hlt:d<nt)(ho:(af ops i).op=.buildSlice t len ps)(hu:P.underlying t=some (.slice e))(hz:zeroOf P e=some z)
  (hgz:(Nat.ble len 10000&&(Nat.ble (ae P e) 1000&&(Nat.beq z.cells.length (ae P e)&&Nat.blt 0 (ae P e))))=true) (hv:Rt.K9 nt T ps.toList vs) (h:Rt.uG (fun i=>some (i*ae P e,ae P e)) vs (fS len z.cells)=some cs) (hnf:lC cs) (hcs:cs.length=len*ae P e)
  (hr:∀b,n0<=b->G b=none->R (T.put d (.cN b 0 len len)) hp nx (dj G b (.cells kd e cs.length cs))):gm P n0 nt ops i T hp nx G R:=by
 intro B w0 ι a w hs;refine .inl ⟨by simp[Region.wanted,hg],?_⟩;rw[hd];have ha:=(hs.1.2 ι (al.refl _ _)).1;simp only[za]at hgz;obtain⟨g1,g2,g3,g4⟩:=hgz;have g1:=aK g1;have g2:=aK g2;have g3:=ai g3;have g4:=av g4;obtain⟨j,zv,h1,h2,h3,h4⟩:=cJ hz;have hmul:len*ae P e<=10000*1000:=zeb g1 g2;have hfl:=Rt.uH ι h;rw[<-Rt.K9.map ha hv]at hfl
 have hrun:(execOp a.eval (af ops i)).run P w=.ok (.value (.slice (some ⟨w.heap.size,0,none⟩) len len)) (w.alloc (.cells (ao ι cs).toArray e (0,0))):=by
  simp only[execOp,ho,Instr.buildSlice,Sem.run_bind,ay hu,Result.andThen_ok,dE h1];rw[show (ps.map fun x=>match x with|(i,x)=>(i,a.eval x))=ps.map fun x=>(x.1,a.eval x.2)from rfl];simp only[Sem.run_ite];rw[if_neg (by simp;omega)];by_cases h0:len*ae P e=0
  ·have hl0:len=0:=by rcases Nat.mul_eq_zero.1 h0 with h|h<;>omega
   subst hl0;have hfl0:Instr.fill (fun i=>some (i*ae P e,ae P e)) #[] (ps.map fun x=>(x.1,a.eval x.2)).toList=some (ao ι cs).toArray:=by rw[fM];exact hfl
   simp only[zbw,if_true,Sem.run_bind,Sem.run_pure,Result.andThen_ok];rw[show (Array.range 0).map ((#[]:Array Value)[·%(#[]:Array Value).size]!)=#[] by simp];rw[hfl0];simp only[Sem.run_bind,newRow,run_newObj,Sem.run_pure,Result.andThen_ok];rfl
  ·have hfl':Instr.fill (fun i=>some (i*ae P e,ae P e)) ((Array.range (len*ae P e)).map ((ao ι z.cells).toArray[·%(ao ι z.cells).toArray.size]!)) (ps.map fun x=>(x.1,a.eval x.2)).toList=some (ao ι cs).toArray:=by
     rw[fM,<-g3,qh ι z.cells (by omega) len,g3];exact hfl
   simp only[if_neg h0,Sem.run_bind,h4 ι,Result.andThen_ok,bZ,Sem.run_pure];rw[hfl'];simp only[Sem.run_bind,newRow,run_newObj,Sem.run_pure,Result.andThen_ok];rfl
 obtain⟨q1,q2,q3⟩:=qH (kd:=kd) (el:=e) hs hnf;exact .inl ⟨_,_,.inl hrun,_,_,_,_,ι,hr _ q2 q3,gz q1 hlt (ja _ _ _ _) (by simp[ak,gL])⟩
end
end Go.aI
namespace Go.Rt
open Go.aI Go.RowKit
theorem fg (a b:List Own):cm (a++b)=cm a++cm b:=zdf
theorem eF {os:List Own}{b:Nat}:b∈cm os ↔ ∃o∈os,o.aS=some b:=List.mem_filterMap
theorem dO.told {P:Program}{Φ:Forms}{G:GH}{Γ:dy}{o:Own}(h:dO P Φ G Γ o){b:Nat}(hb:o.aS=some b):(G b).isSome=true:=by
 cases o with
 |loc b' el C=>cases hb;have h:G b=_:=h.1;rw[h];rfl
 |map b' pk es=>cases hb;have h:G b=_:=h.1;rw[h];rfl
 |iF v e g ms =>
  rcases h.2.2 with ⟨rfl,_⟩|⟨b',cap,size,C,h1,h2,h3,h4⟩
  ·cases hb
  ·rw[h1]at hb;cases hb;rw[h3];rfl
 |ul v c g n =>
  rcases h.2.2 with ⟨rfl,_⟩|⟨b',cap,size,C,h1,h2,h3,h4⟩
  ·cases hb
  ·rw[h1]at hb;cases hb;rw[h3];rfl
 |am b' g k=>cases hb;obtain⟨_,_,_,es,h1,_⟩:=h;rw[h1];rfl
 |im b' k=>cases hb;obtain⟨_,es,h1,_⟩:=h;rw[h1];rfl
 |bl v el ms=>obtain⟨_,_,b',size,h1,h2,h3⟩:=h;rw[h1]at hb;cases hb;rw[h3];rfl
 |km b' c g n=>cases hb;obtain⟨_,_,_,es,h1,_⟩:=h;rw[h1];rfl
 |kq b' c g n q=>cases hb;obtain⟨_,_,_,es,h1,_⟩:=h;rw[h1];rfl
 |rm v c g n=>cases hb
 |it b' m n r st ty=>cases hb;obtain⟨_,⟨mo,seen,_,h1,_⟩,_⟩:=h;rw[h1];rfl
 |lr b' nt tm ps x y=>cases hb;rw[h.1];rfl
 |ms b' v c g f q=>cases hb;obtain⟨_,_,mb,es,es',_,_,_,h1,_⟩:=h;rw[h1];rfl
section
variable {c:Cx}{ops:Array Oper}{i m d f:Nat}{T:Tm}{G G':GH}{Γ Γ':dy}{st st':St}{v u:AV}
theorem Q.Rr (hq:Q c T G Γ st){b:Nat}(h:(c.G0 b).isSome=true):(G b).isSome=true:=hq.rl.OO b h
theorem Q.jm (hq:Q c T G Γ st){b:Nat}(h:G b=none):c.G0 b=none:=by
 cases h0:c.G0 b with
 |none=>rfl
 |some g=>have:=hq.Rr (b:=b) (by rw[h0];rfl);rw[h]at this;cases this
theorem HT.told (h:HT c.P c.Φ G Γ){b:Nat}{x:Ds}(hb:Γ.m b=some x):(G b).isSome=true:=(h.b b x hb).told
theorem HT.none (h:HT c.P c.Φ G Γ){b:Nat}(hb:G b=none):Γ.m b=none:=by
 cases h0:Γ.m b with
 |none=>rfl
 |some x=>have:=h.told h0;rw[hb]at this;cases this
theorem Q.call (hq:Q c T G Γ st){osA osB os':List Own}{tys':List TF}{gsA gs':List (Nat×Gd×Bool)}{Sg:List Nat}(ho:st.os.Perm (osA++osB))(hr:Rl c.Φ (cm osB) Sg G Γ G' Γ')(hgr:ju c.n0 G G')(ht:HT c.P c.Φ G' Γ')(h1:∀o∈os',dO c.P c.Φ G' Γ' o)(h2:(cm os').Nodup)
  (h3:∀o∈os',∀b,o.aS=some b->b∈cm osB∨G b=none) (h4:∀f∈tys',fF c.P c.Φ G' Γ' f) (hSg:∀g∈Sg,g∈c.Sg∨c.Γ0.ng<=g) (hgA:∀p∈gsA,p∈st.gs/\Γ'.gd p.1=Γ.gd p.1) (hgs':∀p∈gs',p.1<Γ'.ng/\Γ'.gd p.1=p.2.1/\(p.2.2=true->(p.1∈c.Sg∨c.Γ0.ng<=p.1)/\p.2.1.fz=false/\0<p.1)) (hin:∀o∈osA,∀g,o.inst=some g->Γ'.gd g=Γ.gd g) (hpin:∀o∈osA,o.Q7=true->∀b c g,Γ.m b=some (.map c g)->G' b=G b) :
  Q c T G' Γ' ⟨st.L,osA++os',tys'++st.dQ,gs'++gsA⟩:=by
 have hnd:(cm (osA++osB)).Nodup:=(ho.filterMap Own.aS).nodup_iff.1 hq.nd;have hmem:∀o,o∈osA++osB->o∈st.os:=fun o h=>ho.mem_iff.2 h;rw[fg,List.nodup_append]at hnd;obtain⟨n1,n2,n3⟩:=hnd
 have hB:∀b∈cm osB,b∈c.S∨c.G0 b=none:=fun b hb=>by
  obtain⟨o,m1,m2⟩:=eF.1 hb;exact hq.new o (hmem o (by simp[m1])) b m2
 have hA:∀o∈osA,o∈st.os:=fun o h=>hmem o (by simp[h]);refine⟨hq.ml,hq.at_,hq.uB,hq.rl.trans (P:=c.P) hq.uB hr hB hSg,hq.grow.trans hgr,fun o h=>?_,fun o h b hb=>?_,?_,ht,fun f hf=>?_,fun p hp=>?_⟩
 ·rcases List.mem_append.1 h with h|h
  ·exact (hq.own o (hA o h)).bE hr (fun b hb hm=>n3 b (eF.2 ⟨o,h,hb⟩) b hm rfl) (hin o h) (hpin o h)
  ·exact h1 o h
 ·rcases List.mem_append.1 h with h|h
  ·exact hq.new o (hA o h) b hb
  ·rcases h3 o h b hb with h|h
   ·exact hB b h
   ·exact .inr (hq.jm h)
 ·show (cm (osA++os')).Nodup;rw[fg];refine List.nodup_append.2 ⟨n1,h2,fun x hx y hy e=>?_⟩;subst e;obtain⟨o,m1,m2⟩:=eF.1 hy;rcases h3 o m1 x m2 with h|h
  ·exact n3 x hx x h rfl
  ·obtain⟨o2,k1,k2⟩:=eF.1 hx;have:=(hq.own o2 (hA o2 k1)).told k2;rw[h]at this;cases this
 ·rcases List.mem_append.1 hf with h|h
  ·exact h4 f h
  ·exact (hq.ty f h).le hr.r hr.le
 ·rcases List.mem_append.1 hp with h|h
  ·exact hgs' p h
  ·obtain⟨h1,h2⟩:=hgA p h;obtain⟨q1,q2,q3⟩:=hq.gs p h1;exact⟨zaw q1 hr.le.ng,h2.trans q2,q3⟩
def updΓ (Γ:dy)(b:Nat)(x:Ds):dy:=⟨fun k=>if k=b then some x else Γ.m k,Γ.gd,Γ.ng⟩
theorem updΓ_same (Γ:dy)(b:Nat)(x:Ds):(updΓ Γ b x).m b=some x:=by simp[updΓ]
theorem updΓ_ne {b k:Nat}{x:Ds}(h:k≠b):(updΓ Γ b x).m k=Γ.m k:=by simp[updΓ,h]
theorem fP.le {P:Program}{Φ:Forms}{cc g:Nat}{es:List (AV×AV)}(h:fP P Φ G Γ cc g es)(hr:dR G G')(hl:dk Γ Γ')(hg:Γ'.gd g=Γ.gd g):fP P Φ G' Γ' cc g es:=by
 unfold fP at h ⊢;refine⟨h.1,?_⟩;have h:=h.2;rw[hg];cases hm:Φ.mv cc with
 |kd k =>
  rw[hm]at h;intro p hp;obtain⟨fs,k1,k2⟩:=h p hp;exact⟨fs,k1,fun f hf=>(k2 f hf).le hr hl⟩
 |unit=>rw[hm]at h;exact h
 |F5 b=>rw[hm]at h;exact h
 |Ii=>rw[hm]at h;exact h
 |kn b k =>
  rw[hm]at h;refine⟨h.1,fun p hp=>?_⟩;obtain⟨fs,k1,k2⟩:=h.2 p hp;exact⟨fs,k1,fun f hf=>(k2 f hf).le hr hl⟩
theorem uA.same {P:Program}{Φ:Forms}{k:Nat}{x:Ds}(h:uA P Φ G Γ k x)(hG:G' k=G k)(hr:dR G G')(hl:dk Γ Γ')(hg:∀g,g<Γ.ng->Γ'.gd g=Γ.gd g):uA P Φ G' Γ' k x:=by
 cases x with
 |cells cc g L =>
  obtain⟨h1,h2,size,C,h3,h4,h5⟩:=h;exact⟨⟨zaw h1.1 hl.ng,h1.2⟩,h2,size,C,by rw[hG];exact h3,h4,fun j m hj=>(h5 j m hj).le hr hl h1.1⟩
 |map cc g =>
  obtain⟨h1,es,h3,h4,h5⟩:=h;exact⟨zaw h1 hl.ng,es,by rw[hG];exact h3,h4,h5.le hr hl (hg g h1)⟩
theorem HT.Vp {P:Program}{Φ:Forms}{b:Nat}(ht:HT P Φ G Γ)(hr:dR G G')(hl:dk Γ Γ')(hgd:Γ'.gd=Γ.gd)(hk:∀k,k≠b->Γ'.m k=Γ.m k)(hG:∀k,k≠b->G' k=G k)(hb:∀x,Γ'.m b=some x->uA P Φ G' Γ' b x):HT P Φ G' Γ':=by
 refine⟨by rw[hgd];exact⟨ht.z.1,zaw ht.z.2 hl.ng⟩,fun k x h=>?_⟩;by_cases e0:k=b
 ·subst e0;exact hb x h
 ·rw[hk k e0]at h;exact (ht.b k x h).same (hG k e0) hr hl fun g _=>by rw[hgd]
theorem Pg {Φ:Forms}{S:List Nat}{b:Nat}(hk:∀k,k≠b->Γ'.m k=Γ.m k)(hG:∀k,k≠b->G' k=G k)(hb:(G' b).isSome=true)(hraw:∀el size C,G b≠some (.cells .raw el size C))(hdat:∀el size C,G b=some (.cells .data el size C)->∃C',G' b=some (.cells .data el size C'))(hle:∀x,Γ.m b=some x->∃y,Γ'.m b=some y/\oc x y)(hgd:Γ'.gd=Γ.gd)(hng:Γ'.ng=Γ.ng)
  (hS:b∈S∨G b=none∨∃x,Γ.m b=some x/\x.fixed Φ=false) (hm:∀x,Γ.m b=some x->(G b).isSome=true) (hnm:b∈S->∀c g,Γ.m b≠some (.map c g)):Rl Φ S [] G Γ G' Γ':=by
 have hne:∀k,(G k).isSome=true->k∉S->Γ.m k=none->k≠b:=fun k hk' hn h0 e=>by
  subst e;rcases hS with h|h|⟨x,h,_⟩
  ·exact hn h
  ·rw[h]at hk';cases hk'
  ·rw[h0]at h;cases h
 refine⟨fun k h hn h0=>?_,⟨fun k el size C h=>?_,fun k el size C h=>?_⟩,fun k x h hx hn=>?_,⟨fun k x h=>?_,fun g _=>by rw[hgd];exact Gd.Le.refl _,by rw[hng];exact zad _⟩,fun g _ _=>by rw[hgd],fun k h=>?_,fun k cc g h hi=>?_⟩
 ·have e:=hne k h hn h0;exact⟨hG k e,by rw[hk k e];exact h0⟩
 ·exact hG k (by rintro rfl;exact hraw _ _ _ h)
 ·by_cases e0:k=b
  ·subst e0;exact hdat _ _ _ h
  ·exact⟨C,by rw[hG k e0];exact h⟩
 ·rw[hk k ?_];exact h
  rintro rfl
  rcases hS with h'|h'|⟨y,h',hy⟩
  ·exact hn h'
  ·have:=hm x h;rw[h']at this;cases this
  ·rw[h]at h';cases h';rw[hx]at hy;cases hy
 ·by_cases e0:k=b
  ·subst e0;exact hle x h
  ·exact⟨x,by rw[hk k e0];exact h,oc.refl x⟩
 ·by_cases e0:k=b
  ·subst e0;exact hb
  ·rw[hG k e0];exact h
 ·refine hG k ?_
  rintro rfl
  rcases hS with h'|h'|⟨y,h',hy⟩
  ·exact hnm h' _ _ h
  ·have:=hm _ h;rw[h']at this;cases this
  ·rw[h]at h';cases h';have hy:Φ.im cc=false:=hy;rw[hi]at hy;cases hy
theorem dO.Nr {P:Program}{Φ:Forms}{G:GH}{Γ:dy}{o:Own}(h:dO P Φ G Γ o){b:Nat}(hb:o.aS=some b)(c g:Nat):Γ.m b≠some (.map c g):=by
 intro e;cases o with
 |loc b' el C=>cases hb;rw[h.2]at e;cases e
 |map b' pk es=>cases hb;rw[h.2.1]at e;cases e
 |iF v c' g' ms =>
  obtain⟨_,_,⟨h1,_⟩|⟨b',cap,size,C,h1,h2,_⟩⟩:=h
  ·rw[h1]at hb;cases hb
  ·rw[h1]at hb;cases hb;rw[h2]at e;cases e
 |ul v c' g' n =>
  obtain⟨_,_,⟨h1,_⟩|⟨b',cap,size,C,h1,h2,_⟩⟩:=h
  ·rw[h1]at hb;cases hb
  ·rw[h1]at hb;cases hb;rw[h2]at e;cases e
 |am b' g' k=>cases hb;rw[h.1]at e;cases e
 |im b' k=>cases hb;rw[h.1]at e;cases e
 |bl v el ms =>
  obtain⟨_,_,b',size,h1,h2,_⟩:=h;rw[h1]at hb;cases hb;rw[h2]at e;cases e
 |km b' c' g' n=>cases hb;rw[h.1]at e;cases e
 |kq b' c' g' n q=>cases hb;rw[h.1]at e;cases e
 |rm v c' g' n=>cases hb
 |it b' m n r st ty=>cases hb;rw[h.1]at e;cases e
 |lr b' nt tm ps x y=>cases hb;rw[h.2]at e;cases e
 |ms b' v c' g' f q=>cases hb;rw[h.1]at e;cases e
theorem Q.nH (hq:Q c T G Γ st){osA osB os':List Own}{tys':List TF}{b:Nat}(ho:st.os.Perm (osA++osB))(hgr:ju c.n0 G G')(hk:∀k,k≠b->Γ'.m k=Γ.m k)(hG:∀k,k≠b->G' k=G k)(hb:(G' b).isSome=true)(hraw:∀el size C,G b≠some (.cells .raw el size C))(hdat:∀el size C,G b=some (.cells .data el size C)->∃C',G' b=some (.cells .data el size C'))
  (hle:∀x,Γ.m b=some x->∃y,Γ'.m b=some y/\oc x y) (hgd:Γ'.gd=Γ.gd) (hng:Γ'.ng=Γ.ng) (hS:b∈cm osB∨G b=none∨∃x,Γ.m b=some x/\x.fixed c.Φ=false)
  (hds:∀x,dR G G'->dk Γ Γ'->Γ'.m b=some x->uA c.P c.Φ G' Γ' b x) (h1:∀o∈os',dR G G'->dk Γ Γ'->dO c.P c.Φ G' Γ' o) (h2:(cm os').Nodup) (h3:∀o∈os',∀b,o.aS=some b->b∈cm osB∨G b=none) (h4:∀f∈tys',dR G G'->dk Γ Γ'->fF c.P c.Φ G' Γ' f) (hpin:∀cc g,Γ.m b=some (.map cc g)->∀o∈osA,o.Q7=false) :
  Q c T G' Γ' ⟨st.L,osA++os',tys'++st.dQ,st.gs⟩:=by
 have hr:Rl c.Φ (cm osB) [] G Γ G' Γ':=Pg hk hG hb hraw hdat hle hgd hng hS (fun x h=>hq.ht.told h) fun h c g=>by
  obtain⟨o,m1,m2⟩:=eF.1 h;exact (hq.own o (ho.mem_iff.2 (zbt _ m1))).Nr m2 c g
 have:=hq.call (gs':=[]) (gsA:=st.gs) ho hr hgr (hq.ht.Vp hr.r hr.le hgd hk hG fun x h=>hds x hr.r hr.le h) (fun o h=>h1 o h hr.r hr.le) h2 h3 (fun f h=>h4 f h hr.r hr.le) (fun g h=>by cases h) (fun p hp=>⟨hp,by rw[hgd]⟩) (fun p hp=>by cases hp) (fun o _ g _=>by rw[hgd]) (fun o ho2 hp k cc g hk2=>by
  by_cases e:k=b
  ·subst e;rw[hpin cc g hk2 o ho2]at hp;cases hp
  ·exact hG k e)
 exact this
theorem Q.A7 (hq:Q c T G Γ st){b:Nat}{g:Gh}(hn:c.n0<=b)(hb:G b=none)(o:Own)(ho:o.aS=some b)(hok:dO c.P c.Φ (dj G b g) Γ o):Q c T (dj G b g) Γ ⟨st.L,o::st.os,st.dQ,st.gs⟩:=by
 have:=hq.nH (osA:=st.os) (osB:=[]) (os':=[o]) (tys':=[]) (b:=b) (G':=dj G b g) (Γ':=Γ) (by simp) (dG (.inr hn)) (fun _ _=>rfl) (fun k h=>aV h) (by rw[au];rfl) (fun _ _ _ h=>by rw[hb]at h;cases h) (fun _ _ _ h=>by rw[hb]at h;cases h) (fun x h=>by rw[hq.ht.none hb]at h;cases h) rfl rfl (.inr (.inl hb))
  (fun x _ _ h=>by rw[hq.ht.none hb]at h;cases h) (fun o' h _ _=>by rw[List.mem_singleton.1 h];exact hok) (by show (List.filterMap Own.aS [o]).Nodup;simp[ho]) (fun o' h b' hb'=>by rw[List.mem_singleton.1 h,ho]at hb';cases hb';exact .inr hb) (fun f h=>by cases h) (fun _ _ h=>by rw[hq.ht.none hb]at h;cases h)
 exact this.iq (fun _ _ h=>h) ⟨[],by simp⟩ (fun f h=>h) (fun p h=>h)
theorem Q.Ln (hq:Q c T G Γ st){b cc g size:Nat}{L:List Nat}{C:List AV}{tys':List TF}(hn:c.n0<=b)(hb:G b=none)(hg:g<Γ.ng)(hrw:c.Φ.raw cc=false)(hu:c.Φ.gv cc=true->∀m∈L,m=WU)(hl:C.length=L.length*ae c.P (c.Φ.ty cc))(hel:∀j m,L[j]?=some m->eT c.P c.Φ G Γ m cc g j ((C.drop (j*ae c.P (c.Φ.ty cc))).take (ae c.P (c.Φ.ty cc))))
  (h4:∀f∈tys',fF c.P c.Φ (dj G b (.cells .data (c.Φ.ty cc) size C)) (updΓ Γ b (.cells cc g L)) f):Q c T (dj G b (.cells .data (c.Φ.ty cc) size C)) (updΓ Γ b (.cells cc g L)) ⟨st.L,st.os,tys'++st.dQ,st.gs⟩:=by
 have:=hq.nH (osA:=st.os) (osB:=[]) (os':=[]) (tys':=tys') (b:=b) (G':=dj G b (.cells .data (c.Φ.ty cc) size C)) (Γ':=updΓ Γ b (.cells cc g L)) (by simp) (dG (.inr hn)) (fun k h=>updΓ_ne h) (fun k h=>aV h) (by rw[au];rfl) (fun _ _ _ h=>by rw[hb]at h;cases h) (fun _ _ _ h=>by rw[hb]at h;cases h) (fun x h=>by rw[hq.ht.none hb]at h;cases h) rfl rfl (.inr (.inl hb))
  (fun x hr hl' h=>by rw[updΓ_same]at h;cases h;exact⟨⟨hg,hrw⟩,hu,size,C,au _ _ _,hl,fun j m hj=>(hel j m hj).le hr hl' hg⟩) (fun o' h=>by cases h) (by show ([]:List Nat).Nodup;simp) (fun o' h=>by cases h) (fun f h _ _=>h4 f h) (fun _ _ h=>by rw[hq.ht.none hb]at h;cases h)
 exact this.iq (fun _ _ h=>h) ⟨[],by simp⟩ (fun f h=>h) (fun p h=>h)
theorem Q.Ru (hq:Q c T G Γ st){b cc g size n:Nat}{L:List Nat}{C:List AV}{tys':List TF}(hn:c.n0<=b)(hb:G b=none)(hg:g<Γ.ng)(hrw:c.Φ.raw cc=false)(hu:c.Φ.gv cc=false)(hl:C.length=L.length*ae c.P (c.Φ.ty cc))(hsz:size=C.length)(hL:L.length=n)(hlim:L.length<=jB)(hel:∀j m,L[j]?=some m->eT c.P c.Φ G Γ m cc g j ((C.drop (j*ae c.P (c.Φ.ty cc))).take (ae c.P (c.Φ.ty cc))))
  (h4:∀f∈tys',fF c.P c.Φ (dj G b (.cells .data (c.Φ.ty cc) size C)) (updΓ Γ b (.cells cc g L)) f):Q c T (dj G b (.cells .data (c.Φ.ty cc) size C)) (updΓ Γ b (.cells cc g L)) ⟨st.L,.iF (.cN b 0 n n) cc g L::st.os,tys'++st.dQ,st.gs⟩:=by
 have:=hq.nH (osA:=st.os) (osB:=[]) (os':=[.iF (.cN b 0 n n) cc g L]) (tys':=tys') (b:=b) (G':=dj G b (.cells .data (c.Φ.ty cc) size C)) (Γ':=updΓ Γ b (.cells cc g L)) (by simp) (dG (.inr hn)) (fun k h=>updΓ_ne h) (fun k h=>aV h) (by rw[au];rfl) (fun _ _ _ h=>by rw[hb]at h;cases h) (fun _ _ _ h=>by rw[hb]at h;cases h) (fun x h=>by rw[hq.ht.none hb]at h;cases h) rfl rfl (.inr (.inl hb))
  (fun x hr hl' h=>by rw[updΓ_same]at h;cases h;exact⟨⟨hg,hrw⟩,fun h=>(by rw[hu]at h;cases h),size,C,au _ _ _,hl,fun j m hj=>(hel j m hj).le hr hl' hg⟩) (fun o' h _ _=>by
   rw[List.mem_singleton.1 h]
   exact⟨hu,hlim,.inr ⟨b,n,size,C,by rw[hL],updΓ_same _ _ _,au _ _ _,by rw[hsz,hl,hL];exact zad _,by rw[hL];exact zad _⟩⟩) (by show (List.filterMap Own.aS [Own.iF (.cN b 0 n n) cc g L]).Nodup;simp[Own.aS,qE]) (fun o' h b' hb'=>by rw[List.mem_singleton.1 h]at hb';cases hb';exact .inr hb) (fun f h _ _=>h4 f h) (fun _ _ h=>by rw[hq.ht.none hb]at h;cases h)
 exact this.iq (fun _ _ h=>h) ⟨[],by simp⟩ (fun f h=>h) (fun p h=>h)
theorem Q.Uw (hq:Q c T G Γ st){b cc g:Nat}{tys':List TF}(hn:c.n0<=b)(hb:G b=none)(hg:g<Γ.ng)(hm:fP c.P c.Φ G Γ cc g [])
  (h4:∀f∈tys',fF c.P c.Φ (dj G b (.map [])) (updΓ Γ b (.map cc g)) f):Q c T (dj G b (.map [])) (updΓ Γ b (.map cc g)) ⟨st.L,st.os,tys'++st.dQ,st.gs⟩:=by
 have:=hq.nH (osA:=st.os) (osB:=[]) (os':=[]) (tys':=tys') (b:=b) (G':=dj G b (.map [])) (Γ':=updΓ Γ b (.map cc g)) (by simp) (dG (.inr hn)) (fun k h=>updΓ_ne h) (fun k h=>aV h) (by rw[au];rfl) (fun _ _ _ h=>by rw[hb]at h;cases h) (fun _ _ _ h=>by rw[hb]at h;cases h) (fun x h=>by rw[hq.ht.none hb]at h;cases h) rfl rfl (.inr (.inl hb))
  (fun x hr hl' h=>by rw[updΓ_same]at h;cases h;exact⟨hg,[],au _ _ _,(fun p hp=>by cases hp),hm.le hr hl' rfl⟩) (fun o' h=>by cases h) (by show ([]:List Nat).Nodup;simp) (fun o' h=>by cases h) (fun f h _ _=>h4 f h) (fun _ _ h=>by rw[hq.ht.none hb]at h;cases h)
 exact this.iq (fun _ _ h=>h) ⟨[],by simp⟩ (fun f h=>h) (fun p h=>h)
theorem Q.A8 (hq:Q c T G Γ st){b:Nat}{osA:List Own}{o o':Own}{tys':List TF}(ho:st.os.Perm (osA++[o]))(hgr:ju c.n0 G G')(hk:∀k,k≠b->Γ'.m k=Γ.m k)(hG:∀k,k≠b->G' k=G k)(hb:(G' b).isSome=true)(hraw:∀el size C,G b≠some (.cells .raw el size C))(hdat:∀el size C,G b=some (.cells .data el size C)->∃C',G' b=some (.cells .data el size C'))
  (hle:∀x,Γ.m b=some x->∃y,Γ'.m b=some y/\oc x y) (hgd:Γ'.gd=Γ.gd) (hng:Γ'.ng=Γ.ng) (hob:o.aS=some b∨G b=none) (ho':o'.aS=some b)
  (hds:∀x,dR G G'->dk Γ Γ'->Γ'.m b=some x->uA c.P c.Φ G' Γ' b x) (h1:dR G G'->dk Γ Γ'->dO c.P c.Φ G' Γ' o') (h4:∀f∈tys',dR G G'->dk Γ Γ'->fF c.P c.Φ G' Γ' f) :
  Q c T G' Γ' ⟨st.L,osA++[o'],tys'++st.dQ,st.gs⟩:=by
 refine hq.nH (b:=b) ho hgr hk hG hb hraw hdat hle hgd hng ?_ hds (fun o2 h=>by rw[List.mem_singleton.1 h];exact h1) (by show (List.filterMap Own.aS [o']).Nodup;simp[ho']) (fun o2 h b2 hb2=>?_) h4 (fun cc g hm=>?_)
 ·rcases hob with h|h
  ·exact .inl (eF.2 ⟨o,by simp,h⟩)
  ·exact .inr (.inl h)
 ·rw[List.mem_singleton.1 h,ho']at hb2;cases hb2;rcases hob with h|h
  ·exact .inl (eF.2 ⟨o,by simp,h⟩)
  ·exact .inr h
 ·rcases hob with h|h
  ·exact absurd hm ((hq.own o (ho.mem_iff.2 (by simp))).Nr h cc g)
  ·rw[hq.ht.none h]at hm;cases hm
theorem Q.Pj (hq:Q c T G Γ st){b:Nat}{x y:Ds}{tys':List TF}{g':Gh}(hx:Γ.m b=some x)(hf:x.fixed c.Φ=false)(hxy:oc x y)(hdat:∀el size C,G b=some (.cells .data el size C)->∃C',g'=.cells .data el size C')
  (hds:dR G (dj G b g')->dk Γ (updΓ Γ b y)->uA c.P c.Φ (dj G b g') (updΓ Γ b y) b y) (h4:∀f∈tys',fF c.P c.Φ (dj G b g') (updΓ Γ b y) f) (hpin:∀cc g,x=.map cc g->∀o∈st.os,o.Q7=false) :
  Q c T (dj G b g') (updΓ Γ b y) ⟨st.L,st.os,tys'++st.dQ,st.gs⟩:=by
 have htold:=hq.ht.told hx
 have:=hq.nH (osA:=st.os) (osB:=[]) (os':=[]) (tys':=tys') (b:=b) (G':=dj G b g') (Γ':=updΓ Γ b y) (by simp) (dG (.inl htold)) (fun k h=>updΓ_ne h) (fun k h=>aV h) (by rw[au];rfl) (fun el size C h=>by
   have:=hq.ht.b b x hx;cases x with
   |cells cc g L=>obtain⟨_,_,s2,C2,h2,_⟩:=this;rw[h]at h2;cases h2
   |map cc g=>obtain⟨_,es,h2,_⟩:=this;rw[h]at h2;cases h2)
  (fun el size C h=>by obtain⟨C',h'⟩:=hdat el size C h;exact⟨C',by rw[au,h']⟩) (fun x' h=>by rw[hx]at h;cases h;exact⟨y,updΓ_same _ _ _,hxy⟩) rfl rfl (.inr (.inr ⟨x,hx,hf⟩))
  (fun x' hr hl' h=>by rw[updΓ_same]at h;cases h;exact hds hr hl') (fun o' h=>by cases h) (by show ([]:List Nat).Nodup;simp) (fun o' h=>by cases h) (fun f h _ _=>h4 f h) (fun cc g h=>by rw[hx]at h;cases h;exact hpin cc g rfl)
 exact this.iq (fun _ _ h=>h) ⟨[],by simp⟩ (fun f h=>h) (fun p h=>h)
end
end Go.Rt
namespace Go.Rd
open Go.aI Go.RowKit Go.Rt
def wQ (s:SS)(f:c6):Bool:=s.ty.any (c6.beq f)
theorem qI {s:SS}{f:c6}(h:wQ s f=true):f∈s.ty:=by
 obtain⟨x,h1,h2⟩:=List.any_eq_true.1 h;have:=c6.ai h2;subst this;exact h1
def Kg (cf:Cf)(s:SS)(g cc:Nat)(x:SC)(K:LE->LE->Option (Option Nat)):Option (Option Nat):=bif cf.Φ.via cc then none else match x with
 |.ab=>(K (.k 0) (.k 0)).map fun _=>none
 |.ref y=>bif wQ s (.sl y cc (wG cf.Φ g cc))then (K (.a (.len y)) (.a (.wt y))).map fun _=>plain cf.Φ cc y else none
 |_=>none
def okB (b:Bool):Option (Option Nat):=bif b then some none else none
def Gf:List (Nat×Nat)->Nat->Option Nat
 | [],_=>none
 |p::l,d=>bif Nat.beq p.1 d then some p.2 else Gf l d
theorem yy:∀{l:List (Nat×Nat)}{d e:Nat},Gf l d=some e->(d,e)∈l
 | [],_,_,h=>by cases h
 |p::l,d,e,h=>by
  have h:(bif Nat.beq p.1 d then some p.2 else Gf l d)=some e:=h;cases hb:Nat.beq p.1 d with
  |true=>rw[hb]at h;cases h;have:=zab hb;subst this;exact zac ..
  |false=>rw[hb]at h;exact zaa _ (yy h)
def Vq (cf:Cf)(s:SS)(g:Nat)(d:Option Nat)(cc:Nat):Option Nat:=bif cf.Φ.via cc then (match d with|some d=>Gf s.sb d|none=>none)else some (wG cf.Φ g cc)
def QA (cf:Cf)(s:SS)(g:Nat)(d:Option Nat)(cc:Nat)(x:SC):Bool:=match x,Vq cf s g d cc with
 |.ref y,some g'=>wQ s (.pt y cc g')
 |_,_=>false
def QB (cf:Cf)(s:SS)(g cc:Nat)(x:SC):Bool:=match x with
 |.ref y=>!cf.Φ.via cc&&wQ s (.mp y cc (wG cf.Φ g cc))
 |_=>false
def IV:SC->Bool|.dY=>true|_=>false
def IW:SC->Bool|.bg=>true|_=>false
def mJ (cf:Cf)(s:SS)(g:Nat)(d:Option Nat)(j:LE)(k:K2)(x:SC):Option (Option Nat):=match k with
 |.int kd=>(match x with|.int k' _=>okB (gB k' kd)|_=>none)
 |.nat b=>(match x,d with|.int k' e,some d=>okB (eE k'&&(bo s e&&bo s (((LE.a (.gn d b)).sub e).bk (-1))))|_,_=>none)
 |.pos b=>(match x,d with|.int k' e,some d=>okB (eE k'&&(bo s (e.bk (-1))&&bo s ((LE.a (.gn d b)).sub e)))|_,_=>none)
 |.str=>okB (iT x).isSome
 |.rp=>(match d with|some d=>(match iT x,sX s.ats d x with|some _,some e=>okB (e.same j)|_,_=>none)|none=>none)
 |.vx _=>none
 |.sU=>(match CJ s g j s.ty with|some w=>okB (x.same w)|none=>none)
 |.bool=>(match x with|.bool _=>some none|_=>none)
 |.oz kd=>(match x with|.oz k' _=>okB (pg k' kd)|.x9 k' _=>okB (pg k' kd)|_=>none)
 |.sl cc=>Kg cf s g cc x fun _ _=>some none
 |.BD cc b=>Kg cf s g cc x fun l _=>okB (bo s ((LE.k b).sub l))
 |.x5 cc b=>(match d with|some d=>Kg cf s g cc x fun l _=>okB (bo s ((LE.a (.gn d b)).sub l))|none=>none)
 |.yY cc b=>(match d with|some d=>Kg cf s g cc x fun l _=>okB (s.fz.contains d&&(bo s ((LE.a (.gn d b)).sub l)&&bo s (l.sub (.a (.gn d b)))))|none=>none)
 |.AR cc=>(match d with|some d=>(match yg s.cU d j with|some e=>Kg cf s g cc x fun l _=>okB (bo s (e.sub l)&&bo s (l.sub e))|none=>none)|none=>none)
 |.rq b=>(match x,d with|.int k' e,some d=>((IB s d e s.ats).bind Nm).bind fun y=>bif eE k'&&(bo s e&&bo s (((LE.a (.gn d b)).sub e).bk (-1)))then some (some y)else none|_,_=>none)
 |.DU cc w=>(match d with|some d=>(IB s d j s.ats).bind fun q=>bif (Nm q).isSome then Kg cf s g cc x fun _ l=>okB (bo s ((LE.k w).sub l)&&bo s (q.sub l))else none|none=>none)
 |.Ct cc w=>Kg cf s g cc x fun _ l=>okB (bo s ((LE.k w).sub l))
 |.ptr cc=>okB (QA cf s g d cc x)
 |.DV cc=>okB (IV x||QA cf s g d cc x)
 |.mp cc=>okB (QB cf s g cc x)
 |.DW cc=>okB (IW x||QB cf s g cc x)
 |.bad=>none
section
variable {c:Cx}{T:Tm}{G:GH}{Γ:dy}{ρ ρ':aZ}{s s':SS}{cf:Cf}{ops:Array Oper}{i d:Nat}
theorem di {b:Bool}{o:Option Nat}(h:okB b=some o):b=true/\o=none:=by
 cases b with
 |true=>cases h;exact⟨rfl,rfl⟩
 |false=>cases h
theorem pz {g cc:Nat}{x:SC}{K:LE->LE->Option (Option Nat)}{o:Option Nat}(h:Kg cf s g cc x K=some o)(hΦ:cf.Φ=c.Φ)(hk:Ok c T G Γ ρ s)(dd:Gd):∃ns le we,(K le we).isSome=true/\le.ev ρ=(ns.length:Int)/\we.ev ρ=((ns.sum+ns.length:Nat):Int)/\fF c.P c.Φ G Γ (.sl (x.den ρ) cc (gi c.Φ dd (ig ρ g) cc) ns)/\Gb ρ o=iO c.Φ [.sl (x.den ρ) cc (gi c.Φ dd (ig ρ g) cc) ns]:=by
 unfold Kg at h;rw[hΦ]at h;cases hv:c.Φ.via cc with
 |true=>rw[hv]at h;cases h
 |false =>
  rw[hv]at h;simp only[cond_false]at h;split at h
  ·obtain⟨q,hq⟩:=Option.isSome_iff_exists.1 (show (K (.k 0) (.k 0)).isSome=true by cases hK:K (.k 0) (.k 0)with|none=>rw[hK]at h;cases h|some q=>rfl);rw[hq]at h;cases h;exact⟨[],.k 0,.k 0,by rw[hq];rfl,by rw[LE.bz];rfl,by rw[LE.bz];rfl,⟨zbl _,.inl ⟨rfl,rfl⟩⟩,by simp[Gb,iO,sw]⟩
  ·rename_i y;cases hb:wQ s (.sl y cc (wG c.Φ g cc))with
   |false=>rw[hb]at h;cases h
   |true =>
    rw[hb]at h;simp only[cond_true]at h;obtain⟨q,hq⟩:=Option.isSome_iff_exists.1 (show (K (.a (.len y)) (.a (.wt y))).isSome=true by cases hK:K (.a (.len y)) (.a (.wt y))with|none=>rw[hK]at h;cases h|some q=>rfl);rw[hq]at h;cases h;have ht:=hk.ty (qI hb);have ht:fF c.P c.Φ G Γ (.sl (ρ y).vv cc (ig ρ (wG c.Φ g cc)) (ρ y).ns):=ht;rw[<-rz (d:=dd) hv]at ht;exact⟨(ρ y).ns,.a (.len y),.a (.wt y),by rw[hq];rfl,by rw[LE.aQ];rfl,by rw[LE.aQ];rfl,ht,eC rfl⟩
  ·cases h
theorem IX {g cc:Nat}{dv:Option Nat}{x:SC}(h:QA cf s g dv cc x=true)(hΦ:cf.Φ=c.Φ)(hk:Ok c T G Γ ρ s)(hd:∀v,dv=some v->Γ.gd (ig ρ g)=(ρ v).gg):fF c.P c.Φ G Γ (.pt (x.den ρ) cc (gi c.Φ (Γ.gd (ig ρ g)) (ig ρ g) cc)):=by
 unfold QA at h;split at h
 ·rename_i y g' hg';have ht:=hk.ty (qI h);have ht:fF c.P c.Φ G Γ (.pt (ρ y).vv cc (ig ρ g')):=ht
  have:gi c.Φ (Γ.gd (ig ρ g)) (ig ρ g) cc=ig ρ g':=by
   unfold Vq at hg';rw[hΦ]at hg';cases hv:c.Φ.via cc with
   |false=>rw[hv]at hg';cases hg';exact rz hv
   |true =>
    rw[hv]at hg';simp only[cond_true]at hg';cases dv with
    |none=>cases hg'
    |some v =>
     have:=hk.sat.sb _ (yy hg');have this:(ρ v).gg.sub=ig ρ g':=this;unfold gi;rw[hv,hd v rfl];exact this
  rw[this];exact ht
 ·cases h
theorem IY {g cc:Nat}{x:SC}(h:QB cf s g cc x=true)(hΦ:cf.Φ=c.Φ)(hk:Ok c T G Γ ρ s)(dd:Gd):fF c.P c.Φ G Γ (.mp (x.den ρ) cc (gi c.Φ dd (ig ρ g) cc)):=by
 unfold QB at h;split at h
 ·rename_i y;rw[hΦ,za,zaj]at h;have ht:=hk.ty (qI h.2);have ht:fF c.P c.Φ G Γ (.mp (ρ y).vv cc (ig ρ (wG c.Φ g cc))):=ht;rw[rz h.1];exact ht
 ·cases h
theorem Ee {g J:Nat}{dv:Option Nat}{j:LE}{k:K2}{x:SC}{o:Option Nat}(h:mJ cf s g dv j k x=some o)(hΦ:cf.Φ=c.Φ)(hk:Ok c T G Γ ρ s)(hd:∀v,dv=some v->Γ.gd (ig ρ g)=(ρ v).gg)(hj:0<=j.ev ρ/\J=(j.ev ρ).toNat) :
  ∃fs,Kv c.Φ (Γ.gd (ig ρ g)) (ig ρ g) J k (x.den ρ) fs/\Gb ρ o=iO c.Φ fs/\∀f∈fs,fF c.P c.Φ G Γ f:=by
 have jm:∀{b:Bool},okB b=some o->Gb ρ o=0:=fun h=>by rw[(di h).2];rfl
 cases k with
 |int kd =>
  unfold mJ at h;simp only at h;split at h
  ·have:=of_decide_eq_true (di h).1;subst this;exact⟨[],⟨⟨_,rfl⟩,rfl⟩,jm h,fun f hf=>by cases hf⟩
  ·cases h
 |nat b =>
  unfold mJ at h;simp only at h;split at h
  ·rename_i k' e v;have h1:=(di h).1;simp only[za]at h1;have:=dT h1.1;subst this;have e1:=ax h1.2.1 hk.sat;have e2:=ax h1.2.2 hk.sat;rw[LE.aO,LE.aw,LE.aQ]at e2;have e2:0<=(((ρ v).gg.n b:Nat):Int)-e.ev ρ+-1:=e2;refine⟨[],⟨⟨(e.ev ρ).toNat,?_,?_⟩,rfl⟩,jm h,fun f hf=>by cases hf⟩
   ·show AV.int .i64 (e.ev ρ)=_;congr 1;exact (zbp e1).symm
   ·rw[hd v rfl];omega
  ·cases h
 |pos b =>
  unfold mJ at h;simp only at h;split at h
  ·rename_i k' e v;have h1:=(di h).1;simp only[za]at h1;have:=dT h1.1;subst this;have e1:=ax h1.2.1 hk.sat;have e2:=ax h1.2.2 hk.sat;rw[LE.aO]at e1;rw[LE.aw,LE.aQ]at e2;have e2:0<=(((ρ v).gg.n b:Nat):Int)-e.ev ρ:=e2;refine⟨[],⟨⟨(e.ev ρ).toNat,?_,by omega,?_⟩,rfl⟩,jm h,fun f hf=>by cases hf⟩
   ·show AV.int .i64 (e.ev ρ)=_;congr 1;exact (zbp (by omega)).symm
   ·rw[hd v rfl];omega
  ·cases h
 |str =>
  have h0:okB (iT x).isSome=some o:=h;obtain⟨q,hq⟩:=Option.isSome_iff_exists.1 (di h0).1;obtain⟨l,m,e,_⟩:=eW hq ρ;exact⟨[],⟨⟨l,m,e,jC (di h0).1 e⟩,rfl⟩,jm h0,fun f hf=>by cases hf⟩
 |rp =>
  unfold mJ at h;simp only at h;split at h
  ·rename_i v;split at h
   ·rename_i q e hq ha;have hs:=(di h).1;obtain⟨l,m,ex,_⟩:=eW hq ρ;obtain⟨x',m1,m2⟩:=nY ha;have hej:e.ev ρ=j.ev ρ:=LE.aN hs ρ
    obtain⟨q1,q2⟩:=(hk.sat.ats _ m1).resolve_right fun hr=>by
     have hr:e.ev ρ<0:=hr.1;have:=hj.1;omega
    have q2:po (ρ v).gg (x'.den ρ)=some (e.ev ρ).toNat:=q2;rw[m2 ρ,ex,LE.aN hs ρ,<-hj.2]at q2;exact⟨[],⟨⟨l,m,ex,jC (by rw[hq];rfl) ex,by rw[hd v rfl];exact q2⟩,rfl⟩,jm h,fun f hf=>by cases hf⟩
   ·cases h
  ·cases h
 |vx b=>cases h
 |sU =>
  unfold mJ at h;simp only at h;cases hs:CJ s g j s.ty with
  |none=>rw[hs]at h;cases h
  |some w =>
   rw[hs]at h;obtain⟨e',m1,m2⟩:=A1 hk.sat hs;obtain⟨_,l,n,k1,k2,k3⟩:=hk.ty m1;have k1:w.den ρ=.str l n:=k1;have k3:(Γ.gd (ig ρ g)).nm (e'.ev ρ).toNat=some (l,n):=k3;rw[m2,<-hj.2]at k3;exact⟨[],⟨⟨l,n,by rw[SC.aN (di h).1 ρ];exact k1,k2,k3⟩,rfl⟩,jm h,fun f hf=>by cases hf⟩
 |bool =>
  unfold mJ at h;simp only at h;split at h
  ·cases h;exact⟨[],⟨⟨_,rfl⟩,rfl⟩,rfl,fun f hf=>by cases hf⟩
  ·cases h
 |oz kd =>
  unfold mJ at h;simp only at h;split at h
  ·have:=of_decide_eq_true (di h).1;subst this;exact⟨[],⟨⟨_,rfl⟩,rfl⟩,jm h,fun f hf=>by cases hf⟩
  ·have:=of_decide_eq_true (di h).1;subst this;exact⟨[],⟨⟨_,rfl⟩,rfl⟩,jm h,fun f hf=>by cases hf⟩
  ·cases h
 |sl cc =>
  simp only[mJ]at h;obtain⟨ns,le,we,h1,h2,hwe,h3,h4⟩:=pz h hΦ hk (Γ.gd (ig ρ g));exact⟨_,⟨ns,rfl⟩,h4,fun f hf=>by rw[List.mem_singleton.1 hf];exact h3⟩
 |BD cc b =>
  simp only[mJ]at h;obtain⟨ns,le,we,h1,h2,hwe,h3,h4⟩:=pz h hΦ hk (Γ.gd (ig ρ g));obtain⟨q,hq⟩:=Option.isSome_iff_exists.1 h1;have:=ax (di hq).1 hk.sat;rw[LE.aw,LE.bz,h2]at this;exact⟨_,⟨ns,rfl,by omega⟩,h4,fun f hf=>by rw[List.mem_singleton.1 hf];exact h3⟩
 |x5 cc b =>
  unfold mJ at h;simp only at h;cases dv with
  |none=>cases h
  |some v =>
   simp only at h;obtain⟨ns,le,we,h1,h2,hwe,h3,h4⟩:=pz h hΦ hk (Γ.gd (ig ρ g));obtain⟨q,hq⟩:=Option.isSome_iff_exists.1 h1;have:=ax (di hq).1 hk.sat;rw[LE.aw,LE.aQ,h2]at this;have this:0<=(((ρ v).gg.n b:Nat):Int)-(ns.length:Int):=this;exact⟨_,⟨ns,rfl,by rw[hd v rfl];omega⟩,h4,fun f hf=>by rw[List.mem_singleton.1 hf];exact h3⟩
 |yY cc b =>
  unfold mJ at h;simp only at h;cases dv with
  |none=>cases h
  |some v =>
   simp only at h;obtain⟨ns,le,we,h1,h2,hwe,h3,h4⟩:=pz h hΦ hk (Γ.gd (ig ρ g));obtain⟨q,hq⟩:=Option.isSome_iff_exists.1 h1;have hb:=(di hq).1;simp only[za]at hb;have a1:=ax hb.2.1 hk.sat;have a2:=ax hb.2.2 hk.sat;rw[LE.aw,LE.aQ,h2]at a1 a2;have a1:0<=(((ρ v).gg.n b:Nat):Int)-(ns.length:Int):=a1;have a2:0<=(ns.length:Int)-(((ρ v).gg.n b:Nat):Int):=a2;have hz:=hk.sat.fz v (List.contains_iff_mem.1 hb.1);exact⟨_,⟨ns,rfl,by rw[hd v rfl];exact hz,by rw[hd v rfl];omega⟩,h4,fun f hf=>by rw[List.mem_singleton.1 hf];exact h3⟩
 |AR cc =>
  unfold mJ at h;simp only at h;cases dv with
  |none=>cases h
  |some v =>
   simp only at h;cases hl:yg s.cU v j with
   |none=>rw[hl]at h;cases h
   |some e =>
    rw[hl]at h;simp only at h;obtain⟨ns,le,we,h1,h2,hwe,h3,h4⟩:=pz h hΦ hk (Γ.gd (ig ρ g));obtain⟨q,hq⟩:=Option.isSome_iff_exists.1 h1;have hb:=(di hq).1;simp only[za]at hb;have a1:=ax hb.1 hk.sat;have a2:=ax hb.2 hk.sat;rw[LE.aw,h2]at a1 a2;obtain⟨j',m1,m2⟩:=qG hl;obtain⟨_,r1,r2⟩:=hk.sat.cU _ m1;have r1:(ρ v).gg.fz=true:=r1;have r2:(((ρ v).gg.fl (j'.ev ρ).toNat:Nat):Int)=e.ev ρ:=r2;rw[m2 ρ,<-hj.2]at r2;exact⟨_,⟨ns,rfl,by rw[hd v rfl];exact r1,by rw[hd v rfl];omega⟩,h4,fun f hf=>by rw[List.mem_singleton.1 hf];exact h3⟩
 |rq b =>
  unfold mJ at h;simp only at h;split at h
  ·rename_i k' e v;cases hl:(IB s v e s.ats).bind Nm with
   |none=>rw[hl]at h;cases h
   |some y =>
    rw[hl]at h;obtain⟨qe,hl1,hl2⟩:=Option.bind_eq_some_iff.1 hl;simp only[zcb]at h;cases hb:(eE k'&&(bo s e&&bo s (((LE.a (.gn v b)).sub e).bk (-1))))with
    |false=>rw[hb]at h;cases h
    |true =>
     rw[hb]at h;cases h;simp only[za]at hb;obtain⟨b1,b2,b3⟩:=hb;have a1:=ax b2 hk.sat;have a2:=ax b3 hk.sat;rw[LE.aO,LE.aw,LE.aQ]at a2;have a2:0<=(((ρ v).gg.n b:Nat):Int)-e.ev ρ+(-1):=a2;have hi:k'=.i64:=by simpa [eE,gB] using b1
     subst hi;have ee:e.ev ρ=Int.ofNat (e.ev ρ).toNat:=by show _=(((e.ev ρ).toNat:Nat):Int);omega
     obtain⟨kk,e',m1,m2⟩:=yj hk.sat hl1;have hq:=CI hl2 ρ;refine⟨[.wn ((ρ y).ns.sum+(ρ y).ns.length)],⟨(e.ev ρ).toNat,_,?_,?_,?_,rfl⟩,by simp[Gb,iO,sw],fun f hf=>by rw[List.mem_singleton.1 hf];trivial⟩
     ·show AV.int .i64 (e.ev ρ)=_;rw[<-ee]
     ·rw[hd v rfl];omega
     ·rcases hk.sat.ats _ m1 with ⟨c1,c2⟩|⟨c1,c2⟩
      ·have c2:po (ρ v).gg (.int kk (e'.ev ρ))=some (qe.ev ρ).toNat:=c2;rw[m2,ee]at c2;have c2:(ρ v).gg.wn (e.ev ρ).toNat=some (qe.ev ρ).toNat:=c2;rw[hd v rfl,c2,hq,zcy]
      ·have c1:qe.ev ρ<0:=c1;rw[hq]at c1;omega
  ·cases h
 |DU cc w =>
  unfold mJ at h;simp only at h;cases dv with
  |none=>cases h
  |some v =>
   simp only at h;cases hl:IB s v j s.ats with
   |none=>rw[hl]at h;cases h
   |some qe =>
    rw[hl]at h;simp only[zcb]at h;cases hv:Nm qe with
    |none=>rw[hv]at h;cases h
    |some y =>
     rw[hv]at h;have h:Kg cf s g cc x (fun _ l=>okB (bo s ((LE.k w).sub l)&&bo s (qe.sub l)))=some o:=h;obtain⟨ns,le,we,h1,h2,hwe,h3,h4⟩:=pz h hΦ hk (Γ.gd (ig ρ g));obtain⟨q,hq⟩:=Option.isSome_iff_exists.1 h1;have hb:=(di hq).1;rw[za]at hb;have a1:=ax hb.1 hk.sat;have a2:=ax hb.2 hk.sat;rw[LE.aw,LE.bz,hwe]at a1;rw[LE.aw,hwe]at a2;obtain⟨kk,e',m1,m2⟩:=yj hk.sat hl;have hqq:=CI hv ρ;refine⟨_,⟨ns,rfl,by omega,(qe.ev ρ).toNat,?_,by omega⟩,h4,fun f hf=>by rw[List.mem_singleton.1 hf];exact h3⟩;rcases hk.sat.ats _ m1 with ⟨c1,c2⟩|⟨c1,c2⟩
     ·have c2:po (ρ v).gg (.int kk (e'.ev ρ))=some (qe.ev ρ).toNat:=c2;have ej:j.ev ρ=Int.ofNat J:=by show _=((J:Nat):Int);rw[hj.2];omega
      rw[m2,ej]at c2;rw[hd v rfl];exact c2
     ·have c1:qe.ev ρ<0:=c1;rw[hqq]at c1;omega
 |Ct cc w =>
  unfold mJ at h;obtain⟨ns,le,we,h1,h2,hwe,h3,h4⟩:=pz h hΦ hk (Γ.gd (ig ρ g));obtain⟨q,hq⟩:=Option.isSome_iff_exists.1 h1;have a1:=ax (di hq).1 hk.sat;rw[LE.aw,LE.bz,hwe]at a1;exact⟨_,⟨ns,rfl,by omega⟩,h4,fun f hf=>by rw[List.mem_singleton.1 hf];exact h3⟩
 |ptr cc =>
  have h0:okB (QA cf s g dv cc x)=some o:=h;exact⟨_,rfl,by rw[jm h0];rfl,fun f hf=>by rw[List.mem_singleton.1 hf];exact IX (di h0).1 hΦ hk hd⟩
 |DV cc =>
  have h0:okB (IV x||QA cf s g dv cc x)=some o:=h;have hb:=(di h0).1;rw[zar]at hb;rcases hb with hb|hb
  ·cases x<;>first|(cases hb;done)|skip
   exact⟨[],.inl ⟨rfl,rfl⟩,by rw[jm h0];rfl,fun f hf=>by cases hf⟩
  ·exact⟨_,.inr rfl,by rw[jm h0];rfl,fun f hf=>by rw[List.mem_singleton.1 hf];exact IX hb hΦ hk hd⟩
 |mp cc =>
  have h0:okB (QB cf s g cc x)=some o:=h;exact⟨_,rfl,by rw[jm h0];rfl,fun f hf=>by rw[List.mem_singleton.1 hf];exact IY (di h0).1 hΦ hk _⟩
 |DW cc =>
  have h0:okB (IW x||QB cf s g cc x)=some o:=h;have hb:=(di h0).1;rw[zar]at hb;rcases hb with hb|hb
  ·cases x<;>first|(cases hb;done)|skip
   exact⟨[],.inl ⟨rfl,rfl⟩,by rw[jm h0];rfl,fun f hf=>by cases hf⟩
  ·exact⟨_,.inr rfl,by rw[jm h0];rfl,fun f hf=>by rw[List.mem_singleton.1 hf];exact IY hb hΦ hk _⟩
 |bad=>cases h
def pA (cf:Cf)(s:SS)(g:Nat)(d:Option Nat)(j:LE):List K2->List SC->Option (List Nat)
 | [],[]=>some []
 |k::ks,x::xs=>match mJ cf s g d j k x,pA cf s g d j ks xs with
  |some o,some os=>some (o.toList++os)
  |_,_=>none
 |_,_=>none
theorem mh {g J:Nat}{dv:Option Nat}{j:LE}(hΦ:cf.Φ=c.Φ)(hk:Ok c T G Γ ρ s)(hd:∀v,dv=some v->Γ.gd (ig ρ g)=(ρ v).gg)(hj:0<=j.ev ρ/\J=(j.ev ρ).toNat):∀{ks:List K2}{xs:List SC}{os:List Nat},pA cf s g dv j ks xs=some os ->
  ∃fs,ia c.Φ (Γ.gd (ig ρ g)) (ig ρ g) J ks (aB ρ xs) fs/\(iG os).ev ρ=(iO c.Φ fs:Nat)/\∀f∈fs,fF c.P c.Φ G Γ f
 | [],[],os,h=>by cases h;exact⟨[],⟨rfl,rfl⟩,by rw[iG,LE.bz];rfl,fun f hf=>by cases hf⟩
 |k::ks,x::xs,os,h=>by
  unfold pA at h;split at h
  ·rename_i o os' h1 h2;cases h;obtain⟨f1,a1,a2,a3⟩:=Ee h1 hΦ hk hd hj;obtain⟨f2,b1,b2,b3⟩:=mh hΦ hk hd hj h2;refine⟨f1++f2,⟨_,_,f1,f2,rfl,rfl,a1,b1⟩,?_,fun f hf=>(List.mem_append.1 hf).elim (a3 f) (b3 f)⟩;rw[iE,<-a2];cases o with
   |none=>simp only[Option.toList,zcx,Gb];rw[b2];omega
   |some y =>
    show (iG (y::os')).ev ρ=_;rw[iG,LE.ib,LE.aQ,b2];show (iO c.Φ f2:Int)+(((ρ y).ns.sum+(ρ y).ns.length:Nat):Int)=((Gb ρ (some y)+iO c.Φ f2:Nat):Int);simp only[Gb];omega
  ·cases h
 | [],_::_,_,h=>by cases h
 |_::_,[],_,h=>by cases h
def Hv (c:Cx)(T:Tm)(G:GH)(Γ:dy)(ops:Array Oper)(i:Nat)(s:SS)(ρ:aZ)(K:SS->R):Prop :=
 gm c.P c.n0 c.nt ops i T c.hp c.nx G fun T' hp' nx' G'=>hp'=c.hp/\nx'=c.nx/\∃Γ' ρ' s',(K s').Ok/\cM s.nx ρ ρ'/\s.nx<=s'.nx/\Ok c T' G' Γ' ρ' s'
def fZ (s:SS)(d:Nat)(v:SV):SS:=⟨s.nx,(d,v)::s.L,s.os,s.ty,s.gs,s.fs,s.bs,s.pw,s.ats,s.cU,s.ne,s.fz,s.sb⟩
theorem Ok.put {v:SV}(h:Ok c T G Γ ρ s)(d:Nat):Ok c (T.put d (v.den ρ)) G Γ ρ (fZ s d v):=⟨⟨h.sat.fs,h.sat.bs,h.sat.pw,h.sat.ats,h.sat.cU,h.sat.ne,h.sat.fz,h.sat.sb⟩,h.q.put d (v.den ρ)⟩
def ir (s:SS)(o:SO):SS:=⟨s.nx,s.L,o::s.os,s.ty,s.gs,s.fs,s.bs,s.pw,s.ats,s.cU,s.ne,s.fz,s.sb⟩
def dm (s:SS)(os:List SO):SS:=⟨s.nx,s.L,os,s.ty,s.gs,s.fs,s.bs,s.pw,s.ats,s.cU,s.ne,s.fz,s.sb⟩
theorem Lo.hv {K:SS->R}(hd:(af ops i).dst=some d)(hlt:d<c.nt)(h:Lo c T G Γ ops i s ρ fun v s=>K (fZ s d v)):Hv c T G Γ ops i s ρ K:=by
 obtain⟨ρ',s',a,n,o,v,h1,h2⟩:=h;exact bq.st h2 hd hlt ⟨rfl,rfl,Γ,ρ',_,h1,a,n,o.put d⟩
def Ux (cf:Cf)(t:TypeId)(d:Nat)(s:SS)(K:SS->R):R:=match (zeroOf cf.P t).bind sW with
 |some v=>(match dN v with|some cs=>fresh s fun b s=>K (fZ (ir s (.loc b t cs)) d (sc (.cu b 0)))|none=>.bad 100 s)
 |none=>.bad 101 s
theorem Ef {K:SS->R}{t:TypeId}{cs:List SC}(h:(fresh s (fun b s=>K (fZ (ir s (.loc b t cs)) d (sc (.cu b 0))))).Ok)(hcs:ya s.nx cs=true)(hk:Ok c T G Γ ρ s){b:Nat}(hb:c.n0<=b)(hb':G b=none) :
  ∃Γ' ρ' s',(K s').Ok/\cM s.nx ρ ρ'/\s.nx<=s'.nx/\Ok c (T.put d (.cu b 0)) (dj G b (.cells .loc t (aB ρ cs).length (aB ρ cs))) Γ' ρ' s':=by
 obtain⟨h1,h2,h3,h4⟩:=aA h hk (.n b);refine⟨Γ,_,_,h1,h2,zan _,?_⟩;have e1:(ρ.up s.nx (.n b) s.nx).nn=b:=by rw[h4];rfl
 have e2:aB (ρ.up s.nx (.n b)) cs=aB ρ cs:=lu h2 hcs;have q:=h3.q.A7 hb hb' (.loc b t (aB ρ cs)) rfl ⟨au _ _ _,h3.q.ht.none hb'⟩
 have hq:Q c T (dj G b (.cells .loc t (aB ρ cs).length (aB ρ cs))) Γ ((ir (aC s) (.loc s.nx t cs)).den (ρ.up s.nx (.n b))):=by
  have:(ir (aC s) (.loc s.nx t cs)).den (ρ.up s.nx (.n b))=⟨((aC s).den (ρ.up s.nx (.n b))).L,.loc b t (aB ρ cs)::((aC s).den (ρ.up s.nx (.n b))).os,((aC s).den (ρ.up s.nx (.n b))).dQ,((aC s).den (ρ.up s.nx (.n b))).gs⟩:=by
   unfold ir SS.den;simp only[zal,SO.den,e1,e2]
  rw[this];exact q
 have ok1:Ok c T (dj G b (.cells .loc t (aB ρ cs).length (aB ρ cs))) Γ (ρ.up s.nx (.n b)) (ir (aC s) (.loc s.nx t cs)):=⟨⟨h3.sat.fs,h3.sat.bs,h3.sat.pw,h3.sat.ats,h3.sat.cU,h3.sat.ne,h3.sat.fz,h3.sat.sb⟩,hq⟩;have:=ok1.put (v:=sc (.cu s.nx 0)) d;have e3:(sc (.cu s.nx 0)).den (ρ.up s.nx (.n b))=.cu b 0:=by show AV.cu (ρ.up s.nx (.n b) s.nx).nn 0=_;rw[e1]
 rw[e3]at this;exact this
theorem IZ {a:AV}{x:SC}(h:Nf a=some x)(n:Nat):x.lt n=true:=by
 unfold Nf at h;split at h<;>first|(cases h;done)|(cases h;rfl)
theorem I0 (n:Nat):∀{l:List AV}{xs:List SC},Ng l=some xs->ya n xs=true
 | [],xs,h=>by cases h;rfl
 |a::l,xs,h=>by
  unfold Ng at h;split at h
  ·rename_i x xs' h1 h2;cases h;show (SC.lt n x&&ya n xs')=true;rw[IZ h1,I0 n h2];rfl
  ·cases h
theorem Gg {a:AV}{v:SV}{cs:List SC}(h:sW a=some v)(hc:dN v=some cs)(n:Nat):ya n cs=true:=by
 unfold sW at h;split at h
 ·rename_i l;cases hl:Ng l with
  |none=>rw[hl]at h;cases h
  |some xs=>rw[hl]at h;cases h;cases hc;exact I0 n hl
 ·cases h;cases hc
 ·cases hl:Nf a with
  |none=>rw[hl]at h;cases h
  |some x=>rw[hl]at h;cases h;cases hc;show (SC.lt n x&&true)=true;rw[IZ hl];rfl
theorem Pm {t:TypeId}{K:SS->R}(ho:(af ops i).op=.alloc t)(hg:(af ops i).guard=none)(hd:(af ops i).dst=some d)(hlt:d<c.nt)(hP:cf.P=c.P)(h:(Ux cf t d s K).Ok)(hk:Ok c T G Γ ρ s):Hv c T G Γ ops i s ρ K:=by
 unfold Ux at h;rw[hP]at h;cases hz:zeroOf c.P t with
 |none=>rw[hz]at h;cases h
 |some zz =>
  rw[hz]at h;simp only[zcb]at h;cases hv:sW zz with
  |none=>rw[hv]at h;cases h
  |some v =>
   rw[hv]at h;simp only at h;cases hc:dN v with
   |none=>rw[hc]at h;cases h
   |some cs =>
    rw[hc]at h;simp only at h;have e1:=jc hv ρ;have e2:zz.cells=aB ρ cs:=by rw[<-e1];exact fy hc ρ
    refine gm.Pf .loc hg hd hlt ho hz (by rw[e2];exact fp _ _) fun b hb hb'=>⟨rfl,rfl,?_⟩;rw[e2];exact Ef h (Gg hv hc _) hk hb hb'
def yz (cf:Cf)(t:TypeId)(v:SV)(d:Nat)(s:SS)(K:SS->R):R:=match dN v with
 |some cs=>bif ya s.nx cs then fresh s fun b s=>K (fZ (ir s (.loc b t cs)) d (sc (.cu b 0)))else .bad 102 s
 |none=>.bad 103 s
theorem Pn {t:TypeId}{x:Operand}{v:SV}{K:SS->R}(ho:(af ops i).op=.box t x)(hg:(af ops i).guard=none)(hd:(af ops i).dst=some d)(hlt:d<c.nt)(h:(yz cf t v d s K).Ok)(hk:Ok c T G Γ ρ s)(hx:bH c.nt T x (v.den ρ)):Hv c T G Γ ops i s ρ K:=by
 unfold yz at h;cases hc:dN v with
 |none=>rw[hc]at h;cases h
 |some cs =>
  rw[hc]at h;simp only at h;cases hl:ya s.nx cs with
  |false=>rw[hl]at h;cases h
  |true =>
   rw[hl]at h;simp only[cond_true]at h;have e2:=fy hc ρ;refine gm.Uv .loc hg hd hlt ho hx (by rw[e2];exact fp _ _) fun b hb hb'=>⟨rfl,rfl,?_⟩;rw[e2];exact Ef h hl hk hb hb'
def eY:List SO->Nat->List SC->List SO
 | [],_,_=>[]
 |.loc b el cs::l,x,cs'=>bif Nat.beq b x then .loc b el cs'::l else .loc b el cs::eY l x cs'
 |o::l,x,cs'=>o::eY l x cs'
theorem ca:∀{l:List SO}{x:Nat}{el:TypeId}{cs:List SC}(cs':List SC),ic l x=some (el,cs)->∃p q,l=p++.loc x el cs::q/\eY l x cs'=p++.loc x el cs'::q
 | [],_,_,_,_,h=>by cases h
 |.loc b el0 cs0::l,x,el,cs,cs',h=>by
  have h:(bif Nat.beq b x then some (el0,cs0)else ic l x)=some (el,cs):=h;show ∃p q,SO.loc b el0 cs0::l=p++.loc x el cs::q/\(bif Nat.beq b x then SO.loc b el0 cs'::l else .loc b el0 cs0::eY l x cs')=p++.loc x el cs'::q;cases hb:Nat.beq b x with
  |true =>
   rw[hb]at h;cases h;have:=zab hb;subst this;exact⟨[],l,rfl,rfl⟩
  |false =>
   rw[hb]at h;obtain⟨p,q,h1,h2⟩:=ca cs' h;exact⟨_::p,q,by rw[h1];rfl,by rw[cond_false,h2];rfl⟩
 |.iF y c' g'::l,x,el,cs,cs',h=>by
  obtain⟨p,q,h1,h2⟩:=ca (l:=l) cs' h;exact⟨.iF y c' g'::p,q,by rw[h1];rfl,by show SO.iF y c' g'::eY l x cs'=_;rw[h2];rfl⟩
 |.ms y v c' g' n qq::l,x,el,cs,cs',h=>by
  obtain⟨p,q,h1,h2⟩:=ca (l:=l) cs' h;exact⟨.ms y v c' g' n qq::p,q,by rw[h1];rfl,by show SO.ms y v c' g' n qq::eY l x cs'=_;rw[h2];rfl⟩
 |.em y c'::l,x,el,cs,cs',h=>by
  obtain⟨p,q,h1,h2⟩:=ca (l:=l) cs' h;exact⟨.em y c'::p,q,by rw[h1];rfl,by show SO.em y c'::eY l x cs'=_;rw[h2];rfl⟩
 |.ul y c' g'::l,x,el,cs,cs',h=>by
  obtain⟨p,q,h1,h2⟩:=ca (l:=l) cs' h;exact⟨.ul y c' g'::p,q,by rw[h1];rfl,by show SO.ul y c' g'::eY l x cs'=_;rw[h2];rfl⟩
 |.am y c' g'::l,x,el,cs,cs',h=>by
  obtain⟨p,q,h1,h2⟩:=ca (l:=l) cs' h;exact⟨.am y c' g'::p,q,by rw[h1];rfl,by show SO.am y c' g'::eY l x cs'=_;rw[h2];rfl⟩
 |.im y c'::l,x,el,cs,cs',h=>by
  obtain⟨p,q,h1,h2⟩:=ca (l:=l) cs' h;exact⟨.im y c'::p,q,by rw[h1];rfl,by show SO.im y c'::eY l x cs'=_;rw[h2];rfl⟩
 |.bl y c' g'::l,x,el,cs,cs',h=>by
  obtain⟨p,q,h1,h2⟩:=ca (l:=l) cs' h;exact⟨.bl y c' g'::p,q,by rw[h1];rfl,by show SO.bl y c' g'::eY l x cs'=_;rw[h2];rfl⟩
 |.km y c' g' n::l,x,el,cs,cs',h=>by
  obtain⟨p,q,h1,h2⟩:=ca (l:=l) cs' h;exact⟨.km y c' g' n::p,q,by rw[h1];rfl,by show SO.km y c' g' n::eY l x cs'=_;rw[h2];rfl⟩
 |.rm y c' g' n::l,x,el,cs,cs',h=>by
  obtain⟨p,q,h1,h2⟩:=ca (l:=l) cs' h;exact⟨.rm y c' g' n::p,q,by rw[h1];rfl,by show SO.rm y c' g' n::eY l x cs'=_;rw[h2];rfl⟩
 |.kq y c' g' n qq::l,x,el,cs,cs',h=>by
  obtain⟨p,q,h1,h2⟩:=ca (l:=l) cs' h;exact⟨.kq y c' g' n qq::p,q,by rw[h1];rfl,by show SO.kq y c' g' n qq::eY l x cs'=_;rw[h2];rfl⟩
 |.it y m n r st ty::l,x,el,cs,cs',h=>by
  obtain⟨p,q,h1,h2⟩:=ca (l:=l) cs' h;exact⟨.it y m n r st ty::p,q,by rw[h1];rfl,by show SO.it y m n r st ty::eY l x cs'=_;rw[h2];rfl⟩
theorem A9 {α:Type}(p q:List α)(a:α):(p++a::q).Perm ((p++q)++[a]):=by
 have:=List.perm_middle (a:=a) (l₁:=p) (l₂:=q);exact this.trans (zce a (p++q)).symm
def zM (cf:Cf)(t:TypeId)(b o:Nat)(v:SV)(s:SS)(K:SS->R):R:=match ic s.os b,dN v with
 |some (_,cs),some l=>bif (cf.P.info? t).isSome&&(Nat.beq (ae cf.P t) l.length&&Nat.ble (o+l.length) cs.length)then K (dm s (eY s.os b (rv o l cs)))else .bad 104 s
 |_,_=>.bad 105 s
theorem Ba (C l:List AV)(o:Nat):vu C o l=rv o l C:=rfl
theorem Po {t:TypeId}{x:Nat}{y:Operand}{b o:Nat}{v:SV}{K:SS->R}(ho:(af ops i).op=.store t (.tmp x) y)(hg:(af ops i).guard=none)(hd:(af ops i).dst=none)(hP:cf.P=c.P)(h:(zM cf t b o v s K).Ok)(hk:Ok c T G Γ ρ s)(hx:T.at x=.cu (ρ b).nn o)(hy:bH c.nt T y (v.den ρ)):Hv c T G Γ ops i s ρ K:=by
 unfold zM at h;rw[hP]at h;split at h
 ·rename_i el cs l hl hv;cases hb:((c.P.info? t).isSome&&(Nat.beq (ae c.P t) l.length&&Nat.ble (o+l.length) cs.length))with
  |false=>rw[hb]at h;cases h
  |true =>
   rw[hb]at h;simp only[cond_true]at h;simp only[za]at hb;obtain⟨b1,b2,b3⟩:=hb;have e2:=fy hv ρ;have hG:=hk.loc hl;have kM:(aB ρ cs).length=cs.length:=by simp[aB]
   have hll:(aB ρ l).length=l.length:=by simp[aB]
   have hle:=aK b3;refine gm.xY (fun e=>by cases e) hg hd ho hx hy b1 rfl (by rw[e2,hll];exact (ai b2).symm) (by rw[e2];exact rH _ _) (by rw[e2];exact fp _ _) hG (by rw[kM,ai b2];exact hle) ⟨rfl,rfl,Γ,ρ,_,h,cM.refl _ _,zad _,?_⟩;rw[e2];obtain⟨p,q,h1,h2⟩:=ca (rv o l cs) hl;have hnm:Γ.m (ρ b).nn=none:=(hk.own (dA hl)).2;have e3:vu (aB ρ cs) o (aB ρ l)=aB ρ (rv o l cs):=(D5 (SC.den ρ) o l cs).symm;have e4:(rv o l cs).length=cs.length:=th hle;have hos:(s.den ρ).os=p.map (SO.den ρ)++(SO.den ρ (.loc b el cs))::q.map (SO.den ρ):=by show s.os.map _=_;rw[h1];simp
   have hQ:=hk.q.A8 (b:=(ρ b).nn) (G':=dj G (ρ b).nn (.cells .loc el cs.length (aB ρ (rv o l cs)))) (Γ':=Γ) (osA:=p.map (SO.den ρ)++q.map (SO.den ρ)) (o:=SO.den ρ (.loc b el cs)) (o':=SO.den ρ (.loc b el (rv o l cs))) (tys':=[]) (by rw[hos];exact A9 _ _ _) (dG (.inl (by rw[hG];rfl))) (fun _ _=>rfl) (fun k h=>aV h) (by rw[au];rfl)
    (fun _ _ _ h=>by rw[hG]at h;cases h) (fun _ _ _ h=>by rw[hG]at h;cases h) (fun x h=>by rw[hnm]at h;cases h) rfl rfl (.inl rfl) rfl (fun x _ _ h=>by rw[hnm]at h;cases h) (fun _ _=>⟨by rw[au];simp[aB,e4],hnm⟩) (fun f h=>by cases h)
   rw[e3];refine⟨⟨hk.sat.fs,hk.sat.bs,hk.sat.pw,hk.sat.ats,hk.sat.cU,hk.sat.ne,hk.sat.fz,hk.sat.sb⟩,hQ.iq (fun _ _ h=>h) ⟨[],?_⟩ (fun f h=>h) (fun p h=>h)⟩;show List.Perm _ ((eY s.os b (rv o l cs)).map (SO.den ρ)++[]);rw[h2,zbg,zat,zal];exact (A9 _ _ _).symm
 ·cases h
end
end Go.Rd
namespace Go.Rd
open Go.aI Go.RowKit Go.Rt
theorem nZ {C:List AV}{a s k:Nat}(h:k<s):((C.drop a).take s)[k]?=C[a+k]?:=by rw[zbd h,zbb]
theorem tn {X Y:List AV}{a b s:Nat}(h:∀k,k<s->X[a+k]?=Y[b+k]?):(X.drop a).take s=(Y.drop b).take s:=by
 apply zdh;intro k;by_cases hk:k<s
 ·rw[nZ hk,nZ hk];exact h k hk
 ·rw[zbr (by rw[zaf];omega),zbr (by rw[zaf];omega)]
theorem I1 {C l:List AV}{J o sz k n:Nat}(hC:C.length=n*sz)(hJ:J<n)(hl:o+l.length<=sz):((rv (J*sz+o) l C).drop (k*sz)).take sz=if k=J then rv o l ((C.drop (J*sz)).take sz)else (C.drop (k*sz)).take sz:=by
 have h1:(J+1)*sz<=n*sz:=zae _ hJ;rw[zax]at h1;have hle:J*sz+o+l.length<=C.length:=by omega
 by_cases e:k=J
 ·subst e;rw[if_pos rfl];have hlen:((C.drop (k*sz)).take sz).length=sz:=by rw[zaf,zas];omega
  apply zdh;intro q;by_cases hq:q<sz
  ·rw[nZ hq,ti hle,ti (by omega),nZ hq];by_cases h2:o<=q/\q<o+l.length
   ·rw[if_pos ⟨by omega,by omega⟩,if_pos h2];congr 1;omega
   ·rw[if_neg (by omega),if_neg h2]
  ·rw[zbr (by rw[zaf];omega),zbr (by rw[th (by omega)];omega)]
 ·rw[if_neg e];refine tn fun q hq=>?_;rw[ti hle,if_neg]
  rintro⟨h2,h3⟩
  rcases Nat.lt_or_gt_of_ne e with h|h
  ·have:(k+1)*sz<=J*sz:=zae _ h;rw[zax]at this;omega
  ·have:(J+1)*sz<=k*sz:=zae _ h;rw[zax]at this;omega
section
variable {c:Cx}{T:Tm}{G:GH}{Γ:dy}{ρ ρ':aZ}{s s':SS}{cf:Cf}{ops:Array Oper}{i d:Nat}
theorem Eg {Φ:Forms}{dd:Gd}{g j:Nat}{ks:List K2}{cs l:List AV}{fs fl:List TF}{o:Nat}(h:ia Φ dd g j ks cs fs)(hl:ia Φ dd g j ((ks.drop o).take l.length) l fl)(hle:o+l.length<=ks.length):∃fs',ia Φ dd g j ks (rv o l cs) fs'/\iO Φ fs'<=iO Φ fs+iO Φ fl/\(∀f∈fs',f∈fs∨f∈fl)/\(o=0/\l.length=ks.length->iO Φ fs'=iO Φ fl):=by
 have hk:ks=ks.take o++((ks.drop o).take l.length++(ks.drop o).drop l.length):=by rw[zdg,zdg]
 have h0:=h;rw[hk]at h;obtain⟨f1,f',e1,w1,w2⟩:=ia.split h;obtain⟨f2,f3,e2,w3,w4⟩:=ia.split w2;have hto:(ks.take o).length=o:=by rw[zaf];omega
 have htl:((ks.drop o).take l.length).length=l.length:=by rw[zaf,zas];omega
 rw[hto]at w1 w3 w4;rw[htl,zcq]at w4;have:=ia.join (ia.join w1 hl) w4;refine⟨(f1++fl)++f3,?_,?_,?_,?_⟩
 ·rw[hk];rw[<-zbc,zcq];rw[zcq]at this;exact this
 ·rw[e1,e2];simp only[iE];omega
 ·intro f hf;rw[e1,e2];simp only[List.mem_append]at hf ⊢;rcases hf with (hf|hf)|hf
  ·exact .inl (.inl hf)
  ·exact .inr hf
  ·exact .inl (.inr (.inr hf))
 ·rintro⟨rfl,hll⟩
  have hf1:f1=[]:=by
   have:ks.take 0=[]:=rfl;rw[this]at w1;exact w1.2
  have hf3:f3=[]:=by
   have:ks.drop (0+l.length)=[]:=zcg (by omega);rw[this]at w4;exact w4.2
  rw[hf1,hf3];simp
theorem I2 {t:TypeId}{x b J o g cc:Nat}{y:Operand}{v:SV}{l:List SC}{os:List Nat}{L:List Nat}{e:LE}{K:SS->R}(ho:(af ops i).op=.store t (.tmp x) y)(hg:(af ops i).guard=none)(hd:(af ops i).dst=none)(hΦ:cf.Φ=c.Φ)(hk:Ok c T G Γ ρ s)(hK:(K s).Ok)
  (hb:Γ.m b=some (.cells cc (ig ρ g) L)) (hJ:J<L.length) (hu:c.Φ.gv cc=true) (hx:T.at x=.cu b (J*ae c.P (c.Φ.ty cc)+o)) (hy:bH c.nt T y (v.den ρ)) (hv:dN v=some l) (hi:(c.P.info? t).isSome=true) (hn:ae c.P t=l.length) (hle:o+l.length<=(c.Φ.ks cc).length)
  (hc:pA cf s g (ghost s.gs g) e (((c.Φ.ks cc).drop o).take l.length) l=some os) (he:0<=e.ev ρ/\J=(e.ev ρ).toNat) (hos:os=[]∨(o=0/\l.length=(c.Φ.ks cc).length/\(iG os).ev ρ<=WU)):Hv c T G Γ ops i s ρ K:=by
 obtain⟨d1,d2,size,C,d3,d4,d5⟩:=hk.q.ht.b _ _ hb;have e2:=fy hv ρ;have hll:(aB ρ l).length=l.length:=by simp[aB]
 obtain⟨fl,c1,c2,c3⟩:=mh hΦ hk (fun dv h=>cR h hk) he hc;have hL:L[J]?=some L[J]:=zap hJ;have hLW:=d2 hu _ (zba hL);obtain⟨fs0,w1,w2,w3⟩:=d5 J _ hL
 have hks:(c.Φ.ks cc).length=ae c.P (c.Φ.ty cc):=by
  have h1:(J+1)*ae c.P (c.Φ.ty cc)<=L.length*ae c.P (c.Φ.ty cc):=zae _ hJ;rw[zax]at h1;rw[<-w1.len,zaf,zas];omega
 have hfit:J*ae c.P (c.Φ.ty cc)+o+l.length<=C.length:=by
  have h1:(J+1)*ae c.P (c.Φ.ty cc)<=L.length*ae c.P (c.Φ.ty cc):=zae _ hJ;rw[zax]at h1;omega
 refine gm.xY (fun e=>by cases e) hg hd ho hx hy hi rfl (by rw[e2,hll,hn]) (by rw[e2];exact rH _ _) (by rw[e2];exact fp _ _) d3 (by rw[hn];exact hfit) ⟨rfl,rfl,updΓ Γ b (.cells cc (ig ρ g) L),ρ,s,hK,cM.refl _ _,zad _,hk.sat,?_⟩;rw[e2,Ba]
 have hQ:=hk.q.Pj (x:=.cells cc (ig ρ g) L) (y:=.cells cc (ig ρ g) L) (tys':=[]) (g':=.cells .data (c.Φ.ty cc) size (rv (J*ae c.P (c.Φ.ty cc)+o) (aB ρ l) C)) hb (by show (!c.Φ.gv cc)=false;rw[hu];rfl) (oc.refl _) (fun el size' C' h=>by rw[d3]at h;cases h;exact⟨_,rfl⟩)
  (fun hr hl'=>⟨d1,d2,size,_,au _ _ _,by rw[th (by rw[hll];exact hfit)];exact d4,fun k m hkm=>?_⟩) (fun f h=>by cases h) (fun _ _ h=>by cases h)
 ·exact hQ.iq (fun _ _ h=>h) ⟨[],by simp⟩ (fun f h=>h) (fun p h=>h)
 ·rw[I1 d4 hJ (by rw[hll];omega)];by_cases ek:k=J
  ·subst ek;rw[if_pos rfl];rw[hL]at hkm;cases hkm;obtain⟨fs',p1,p2,p3,p4⟩:=Eg (o:=o) w1 (l:=aB ρ l) (by rw[hll];exact c1) (by rw[hll];exact hle);refine eT.le ⟨fs',p1,?_,fun f hf=>(p3 f hf).elim (w3 f) (c3 f)⟩ hr hl' d1.1;rcases hos with rfl|⟨ho0,hlk,hW⟩
   ·rw[iG,LE.bz]at c2;have:iO c.Φ fl=0:=by omega
    omega
   ·have:=p4 ⟨ho0,by rw[hll];exact hlk⟩;rw[this,hLW];omega
  ·rw[if_neg ek];exact (d5 k m hkm).le hr hl' d1.1
def Gi (s:SS)(os:List Nat)(o n m:Nat):Bool:=os.isEmpty||(Nat.beq o 0&&(Nat.beq n m&&bo s ((LE.k WU).sub (iG os))))
theorem Eh {os:List Nat}{o n m:Nat}(h:Gi s os o n m=true)(hs:Sat ρ s):os=[]∨(o=0/\n=m/\(iG os).ev ρ<=WU):=by
 unfold Gi at h;simp only[zar,za]at h;rcases h with h|⟨h1,h2,h3⟩
 ·exact .inl (List.isEmpty_iff.1 h)
 ·refine .inr ⟨ai h1,ai h2,?_⟩;have:=ax h3 hs;rw[LE.aw,LE.bz]at this;omega
def QC (cf:Cf)(t:TypeId)(cc g:Nat)(e:LE)(o:Nat)(v:SV)(s:SS)(K:SS->R):R:=match dN v with
 |some l=>bif cf.Φ.gv cc&&((cf.P.info? t).isSome&&(Nat.beq (ae cf.P t) l.length&&Nat.ble (o+l.length) (cf.Φ.ks cc).length))then
  (match pA cf s g (ghost s.gs g) e (((cf.Φ.ks cc).drop o).take l.length) l with
   |some os=>bif Gi s os o l.length (cf.Φ.ks cc).length then K s else .bad 106 s
   |none=>.bad 107 s)
  else .bad 108 s
 |none=>.bad 109 s
def TC (cf:Cf)(t:TypeId)(x v:SV)(s:SS)(K:SS->R):R:=match x with
 |.v false [.cu b o]=>zM cf t b o v s K
 |.v false [.oB y e sz o]=>(match py s.ty y with
  |some (cc,g)=>bif Ea s y e&&Nat.beq sz (ae cf.P (cf.Φ.ty cc))then QC cf t cc g e o v s K else .bad 110 s
  |none=>.bad 111 s)
 |.v false [.ref y]=>(match pI s.ty y with|some (cc,g)=>QC cf t cc g (.k 0) 0 v s K|none=>.bad 112 s)
 |.v false [.vd y o]=>(match pI s.ty y with|some (cc,g)=>QC cf t cc g (.k 0) o v s K|none=>.bad 112 s)
 |_=>.bad 113 s
theorem I3 {t:TypeId}{x:Nat}{y:Operand}{u v:SV}{K:SS->R}(ho:(af ops i).op=.store t (.tmp x) y)(hg:(af ops i).guard=none)(hd:(af ops i).dst=none)(hP:cf.P=c.P)(hΦ:cf.Φ=c.Φ)(h:(TC cf t u v s K).Ok)(hk:Ok c T G Γ ρ s)(hx:T.at x=u.den ρ)(hy:bH c.nt T y (v.den ρ)):Hv c T G Γ ops i s ρ K:=by
 have typed:∀{cc g o:Nat} {e:LE} {b J:Nat} {L:List Nat},(QC cf t cc g e o v s K).Ok->0<=e.ev ρ->J=(e.ev ρ).toNat->(c.Φ.gv cc=true->Γ.m b=some (.cells cc (ig ρ g) L)/\J<L.length/\T.at x=.cu b (J*ae c.P (c.Φ.ty cc)+o))->Hv c T G Γ ops i s ρ K:=fun {cc g o e b J L} h he hJ hh=>by
  unfold QC at h;rw[hP,hΦ]at h;cases hc:dN v with
  |none=>rw[hc]at h;cases h
  |some l =>
   rw[hc]at h;simp only at h;cases hb:(c.Φ.gv cc&&((c.P.info? t).isSome&&(Nat.beq (ae c.P t) l.length&&Nat.ble (o+l.length) (c.Φ.ks cc).length)))with
   |false=>rw[hb]at h;cases h
   |true =>
    rw[hb]at h;simp only[cond_true]at h;simp only[za]at hb;obtain⟨b1,b2,b3,b4⟩:=hb;obtain⟨q1,q2,q3⟩:=hh b1;cases kM:pA cf s g (ghost s.gs g) e (((c.Φ.ks cc).drop o).take l.length) l with
    |none=>rw[kM]at h;cases h
    |some os =>
     rw[kM]at h;simp only at h;cases hos:Gi s os o l.length (c.Φ.ks cc).length with
     |false=>rw[hos]at h;cases h
     |true =>
      rw[hos]at h;exact I2 ho hg hd hΦ hk h q1 q2 b1 q3 hy hc b2 (ai b3) (aK b4) kM ⟨he,hJ⟩ (Eh hos hk.sat)
 unfold TC at h;split at h
 ·exact Po ho hg hd hP h hk hx hy
 ·rename_i q e sz o;cases hf:py s.ty q with
  |none=>rw[hf]at h;cases h
  |some p =>
   obtain⟨cc,g⟩:=p;rw[hf]at h;simp only at h;rw[hP,hΦ]at h;cases hb:(Ea s q e&&Nat.beq sz (ae c.P (c.Φ.ty cc)))with
   |false=>rw[hb]at h;cases h
   |true =>
    rw[hb]at h;simp only[cond_true]at h;rw[za]at hb;obtain⟨cc',g',b0,o0,cp0,r1,r2,r3,r4,r5⟩:=rB hb.1 hk;rw[hf]at r1;simp only[Option.some.injEq,Prod.mk.injEq]at r1;obtain⟨rfl,rfl⟩:=r1;have hsz:=ai hb.2
    have hu:c.Φ.gv cc=true:=by
     have h':=h;unfold QC at h';rw[hΦ]at h';cases hu:c.Φ.gv cc with
     |true=>rfl
     |false =>
      rw[hu]at h';cases hc:dN v with
      |none=>rw[hc]at h';cases h'
      |some l=>rw[hc]at h';cases h'
    obtain⟨_,ht⟩:=CV r5 hu;rcases ht with ⟨_,h0⟩|⟨b,cap,L,size,C,q1,q2,q3,q4,q5,q6⟩
    ·rw[h0]at r4;simp at r4
    ·refine typed (b:=b) (J:=(e.ev ρ).toNat) (L:=L) h r3 rfl fun _=>⟨q2,by have:=jL q3;omega,?_⟩;rw[hx,hsz];show pf (ρ q).vv _=_;rw[mf q1,zaq]
 ·rename_i q;cases hf:pI s.ty q with
  |none=>rw[hf]at h;cases h
  |some p =>
   obtain⟨cc,g⟩:=p;rw[hf]at h;obtain⟨b,L,q1,q2,q3⟩:=hk.ty (iN hf);refine typed (b:=b) (J:=0) (L:=L) h (by rw[LE.bz];exact zch _) (by rw[LE.bz];rfl) fun _=>⟨q2,q3,?_⟩;rw[hx,zbw,zbu];exact q1
 ·rename_i q o;cases hf:pI s.ty q with
  |none=>rw[hf]at h;cases h
  |some p =>
   obtain⟨cc,g⟩:=p;rw[hf]at h;obtain⟨b,L,q1,q2,q3⟩:=hk.ty (iN hf);refine typed (b:=b) (J:=0) (L:=L) h (by rw[LE.bz];exact zch _) (by rw[LE.bz];rfl) fun _=>⟨q2,q3,?_⟩;rw[hx,zbw];show mH (ρ q).vv o=_;rw[show (ρ q).vv=.cu b 0 from q1];rfl
 ·cases h
end
end Go.Rd
namespace Go.Rt
open Go.aI Go.RowKit
def C1 (v:AV):Prop:=nf v/\sH v=true
def CL (l:List AV):Prop:=∀v∈l,C1 v
theorem kN:CL []:=fun v h=>by simp at h
theorem CL.nf {l:List AV}(h:CL l):lC l:=fun v hv=>(h v hv).1
theorem CL.flat {l:List AV}(h:CL l):flat l=true:=AL fun v hv=>(h v hv).2
theorem Pp {v:AV}(h:Rd.cr v=true):C1 v:=by
 cases v<;>first|(cases h;done)|skip
 ·exact⟨nV,rfl⟩
 ·exact⟨lY,rfl⟩
 ·exact⟨nW,rfl⟩
 ·exact⟨ja _ _ _ _,rfl⟩
 ·exact⟨oW _ _,rfl⟩
 ·exact⟨xU _,rfl⟩
section
variable {c:Cx}{ops:Array Oper}{i m d f:Nat}{T:Tm}{G G':GH}{Γ Γ':dy}{st st':St}{v u:AV}{P:Program}{Φ:Forms}{n0 nt:Nat}{hp:Tr AO}{nx:Pz}
theorem uN {f:TF}(h:fF P Φ G Γ f):Rd.cr f.v=true:=Rd.tj (c:=⟨P,Φ,0,0,[],[],G,Γ,.e,aI.z 0,[]⟩) h
theorem Kv.c1 {dd:Gd}{g j:Nat}{k:K2}{f:List TF}(h:Kv Φ dd g j k v f)(hf:∀x∈f,fF P Φ G Γ x):C1 v:=by
 have one:∀x,f=[x]->x.v=v->C1 v:=fun x e ev=>by subst e;subst ev;exact Pp (uN (hf x (zaz _)))
 cases k with
 |int k=>obtain⟨⟨z,rfl⟩,_⟩:=h;exact⟨kL _ _,rfl⟩
 |nat b=>obtain⟨⟨n,rfl,_⟩,_⟩:=h;exact⟨kL _ _,rfl⟩
 |pos b=>obtain⟨⟨n,rfl,_⟩,_⟩:=h;exact⟨kL _ _,rfl⟩
 |str=>obtain⟨⟨l,n,rfl,_⟩,_⟩:=h;exact⟨iZ _ _,rfl⟩
 |rp=>obtain⟨⟨l,n,rfl,_⟩,_⟩:=h;exact⟨iZ _ _,rfl⟩
 |vx b=>obtain⟨⟨l,n,rfl,_⟩,_⟩:=h;exact⟨iZ _ _,rfl⟩
 |sU=>obtain⟨⟨l,n,rfl,_⟩,_⟩:=h;exact⟨iZ _ _,rfl⟩
 |bool=>obtain⟨⟨b,rfl⟩,_⟩:=h;exact⟨lX _,rfl⟩
 |oz k=>obtain⟨⟨b,rfl⟩,_⟩:=h;exact⟨qy _ _,rfl⟩
 |sl c=>obtain⟨ns,h⟩:=h;exact one _ h rfl
 |BD c b=>obtain⟨ns,h,_⟩:=h;exact one _ h rfl
 |x5 c b=>obtain⟨ns,h,_⟩:=h;exact one _ h rfl
 |yY c b=>obtain⟨ns,h,_⟩:=h;exact one _ h rfl
 |AR c=>obtain⟨ns,h,_⟩:=h;exact one _ h rfl
 |rq b=>obtain⟨n,q,rfl,_⟩:=h;exact⟨kL _ _,rfl⟩
 |DU c w=>obtain⟨ns,h,_⟩:=h;exact one _ h rfl
 |Ct c w=>obtain⟨ns,h,_⟩:=h;exact one _ h rfl
 |ptr c=>exact one _ h rfl
 |DV c=>rcases h with ⟨rfl,_⟩|h
        ·exact⟨nV,rfl⟩
        ·exact one _ h rfl
 |mp c=>exact one _ h rfl
 |DW c=>rcases h with ⟨rfl,_⟩|h
        ·exact⟨nW,rfl⟩
        ·exact one _ h rfl
 |bad=>exact h.elim
theorem ia.cl {dd:Gd}{g j:Nat}:∀{ks:List K2}{cs:List AV}{fs:List TF},ia Φ dd g j ks cs fs->(∀f∈fs,fF P Φ G Γ f)->CL cs
 | [],_,_,⟨h,_⟩,hf=>by subst h;exact kN
 |k::ks,_,_,⟨v,cs',f,fs',h1,h2,h3,h4⟩,hf=>by
  subst h1 h2;intro x hx;rcases List.mem_cons.1 hx with rfl|hx
  ·exact h3.c1 fun y hy=>hf y (zbo _ hy)
  ·exact ia.cl h4 (fun y hy=>hf y (zbt _ hy)) x hx
theorem eT.cl {m cc g j:Nat}{cs:List AV}(h:eT P Φ G Γ m cc g j cs):CL cs:=by
 obtain⟨fs,h1,_,h3⟩:=h;exact h1.cl h3
theorem uO {sz b o len cap size:Nat}{wr:BK}{el:TypeId}{C:List AV}(hv:v=.cN b o len cap)(hb:G b=some (.cells wr el size C))(hle:o+len*sz<=C.length)(hn:CL ((C.drop o).take (len*sz))) :
  AK P n0 nt T hp nx G sz len v ((C.drop o).take (len*sz)):=by
 subst hv;have hlen:((C.drop o).take (len*sz)).length=len*sz:=by rw[zaf,zas];omega
 refine⟨hlen,hn.nf,hn.flat,fun B w0 ι a w hs=>⟨by simp[ak,Builtin.lenOf],?_⟩⟩;simp only[ak];refine kW (by rw[aq,hlen]) fun j hj=>?_
 rw[iC hs hb _ (by omega) (fun _ he=>by
  have:=(hn _ (zba (i:=j) (by rw[zbd (by first|exact hj|(rw[aq,hlen]at hj;exact hj)),zbb];exact he))).2
  cases this),bu,zbd hj,zbb]
theorem I4 {e n o j:Nat}{C:List AV}(hj:j<n)(hle:o+n*e<=C.length):(((C.drop o).take (n*e)).drop (j*e)).take e=(C.drop (o+j*e)).take e:=by
 have h1:(j+1)*e<=n*e:=zae _ hj;rw[zax]at h1;rw[ze,zep,zcq,zcl (by omega)]
theorem uP {e n:Nat}{E:List AV}(hlen:E.length=n*e)(hE:∀j,j<n->CL ((E.drop (j*e)).take e)):CL E:=fun x hx=>by
 obtain⟨k,hk,rfl⟩:=List.getElem_of_mem hx;have hk':=hk;rw[hlen]at hk
 have hpos:0<e:=by
  rcases Nat.eq_zero_or_pos e with h0|h0
  ·rw[h0]at hk;omega
  ·exact h0
 have hj:k/e<n:=Nat.div_lt_of_lt_mul (by rw[zct];exact hk);have hd:=zek k e;have hm:=Nat.mod_lt k hpos;rw[zct]at hd;refine hE (k/e) hj _ ?_;refine zba (i:=k%e) ?_;rw[zbd hm,zbb,hd];exact zap hk'
theorem Ei {cc g:Nat}{ns:List Nat}{b o cap size:Nat}{wr:BK}{el:TypeId}{C:List AV}(hv:v=.cN b o ns.length cap)(hb:G b=some (.cells wr el size C))(hle:o+ns.length*ae P (Φ.ty cc)<=C.length)(hel:∀j m,ns[j]?=some m->eT P Φ G Γ m cc g j ((C.drop (o+j*ae P (Φ.ty cc))).take (ae P (Φ.ty cc)))) :
  ∃E,AK P n0 nt T hp nx G (ae P (Φ.ty cc)) ns.length v E/\CL E/\∀j m,ns[j]?=some m->eT P Φ G Γ m cc g j ((E.drop (j*ae P (Φ.ty cc))).take (ae P (Φ.ty cc))):=by
 have hE:∀j m,ns[j]?=some m->eT P Φ G Γ m cc g j ((((C.drop o).take (ns.length*ae P (Φ.ty cc))).drop (j*ae P (Φ.ty cc))).take (ae P (Φ.ty cc))):=fun j m hj=>by
  rw[I4 (List.getElem?_eq_some_iff.1 hj).1 hle];exact hel j m hj
 have kM:=uP (n:=ns.length) (e:=ae P (Φ.ty cc)) (E:=(C.drop o).take (ns.length*ae P (Φ.ty cc))) (by rw[zaf,zas];omega) fun j hj=>(hE j _ (zap hj)).cl;exact⟨_,uO hv hb hle kM,kM,hE⟩
theorem fF.src {cc g:Nat}{ns:List Nat}(h:fF P Φ G Γ (.sl v cc g ns))(ht:HT P Φ G Γ):∃E,AK P n0 nt T hp nx G (ae P (Φ.ty cc)) ns.length v E/\CL E/\∀j m,ns[j]?=some m->eT P Φ G Γ m cc g j ((E.drop (j*ae P (Φ.ty cc))).take (ae P (Φ.ty cc))):=by
 obtain⟨_,h⟩:=h;rcases h with ⟨rfl,rfl⟩|⟨rfl,h⟩|⟨b,cap,L,size0,C0,h1,h2,h3,_⟩
 ·exact⟨[],qC rfl,kN,fun j m hj=>by simp at hj⟩
 ·cases h with
  |nil=>exact⟨[],qC rfl,kN,fun j m hj=>by simp at hj⟩
  |@emp _ b o cp hu=>exact⟨[],⟨by simp,jt,rfl,fun B w0 ι a w hs=>⟨by simp[ak,Builtin.lenOf],by simp only[ak];exact kW (l:=ao ι []) (by simp[ao]) fun j hj=>by simp at hj⟩⟩,kN,fun j m hj=>by simp at hj⟩
  |aS hb hu hl h=>exact Ei rfl hb hl fun j m hj=>(h j m hj).el ht.z.1 j
 ·obtain⟨_,_,size,C,q1,q2,q3⟩:=ht.b _ _ h2;have hle:=jL h3;refine Ei h1 q1 (by rw[q2,zaq];exact zae _ hle) fun j m hj=>?_;rw[zaq];refine q3 j m ?_;have hlt:j<ns.length:=(List.getElem?_eq_some_iff.1 hj).1;rw[h3,zci,if_pos hlt]at hj;exact hj
theorem fF.Uy {cc g e:Nat}{ns:List Nat}(h:fF P Φ G Γ (.sl v cc g ns))(hu:Φ.gv cc=true)(ht:HT P Φ G Γ)(he:e<=ns.length):∃E,AK P n0 nt T hp nx G (ae P (Φ.ty cc)) (ns.drop e).length (Rd.Kb v e (ae P (Φ.ty cc))) E/\CL E/\(∀m∈ns,m=WU)/\∀j m,(ns.drop e)[j]?=some m->∃j',eT P Φ G Γ m cc g j' ((E.drop (j*ae P (Φ.ty cc))).take (ae P (Φ.ty cc))):=by
 obtain⟨_,h⟩:=h
 have nl:∀{x:AV},x=.ab∨(∃b o cp,x=.cN b o 0 cp)->ns=[]->Rd.Kb v e (ae P (Φ.ty cc))=x->∃E,AK P n0 nt T hp nx G (ae P (Φ.ty cc)) (ns.drop e).length (Rd.Kb v e (ae P (Φ.ty cc))) E/\CL E/\(∀m∈ns,m=WU)/\∀j m,(ns.drop e)[j]?=some m->∃j',eT P Φ G Γ m cc g j' ((E.drop (j*ae P (Φ.ty cc))).take (ae P (Φ.ty cc))):=by
  rintro x hx rfl hv
  rw[hv];refine⟨[],?_,kN,fun m hm=>(by cases hm),fun j m hj=>by simp at hj⟩;rcases hx with rfl|⟨b,o,cp,rfl⟩
  ·rw[List.drop_nil];exact qC rfl
  ·rw[List.drop_nil];exact⟨by simp,jt,rfl,fun B w0 ι a w hs=>⟨by simp[ak,Builtin.lenOf],by simp only[ak];exact kW (l:=ao ι []) (by simp[ao]) fun j hj=>by simp at hj⟩⟩
 rcases h with ⟨rfl,rfl⟩|⟨rfl,h⟩|⟨b,cap,L,size0,C0,h1,h2,h3,h4,h5,h6⟩
 ·exact nl (.inl rfl) rfl rfl
 ·cases h with
  |nil=>exact nl (.inl rfl) rfl rfl
  |@emp _ b o cp hu'=>rw[hu]at hu';cases hu'
  |aS hb hu' hl h=>rw[hu]at hu';cases hu'
 ·obtain⟨_,hw,size,C,q1,q2,q3⟩:=ht.b _ _ h2;have hle:=jL h3;have hWU:∀m∈ns,m=WU:=fun m hm=>hw hu m (by rw[h3]at hm;exact zds hm)
  have hns:∀j m,(ns.drop e)[j]?=some m->L[e+j]?=some m:=fun j m hj=>by
   rw[zbb]at hj;have hlt:e+j<ns.length:=(List.getElem?_eq_some_iff.1 hj).1;rw[h3,zci,if_pos hlt]at hj;exact hj
  have hlen:(ns.drop e).length=ns.length-e:=zas;by_cases hc:cap=e
  ·have h0:(ns.drop e).length=0:=by rw[hlen];omega
   have hn:ns.drop e=[]:=List.eq_nil_of_length_eq_zero h0;rw[hn,h1]
   have hv:Rd.Kb (.cN b 0 ns.length cap) e (ae P (Φ.ty cc))=.cN b 0 0 (cap-e):=by
    unfold Rd.Kb;simp only;have:Nat.beq cap e=true:=by rw[hc];exact zcf e
    rw[this,show ns.length-e=0 by omega];rfl
   rw[hv];refine⟨[],⟨by simp,jt,rfl,fun B w0 ι a w hs=>⟨by simp[ak,Builtin.lenOf],by simp only[ak];exact kW (l:=ao ι []) (by simp[ao]) fun j hj=>by simp at hj⟩⟩,kN,hWU,fun j m hj=>by simp at hj⟩
  ·have hv:Rd.Kb v e (ae P (Φ.ty cc))=.cN b (e*ae P (Φ.ty cc)) (ns.drop e).length (cap-e):=by
     rw[h1,hlen];unfold Rd.Kb;simp only
     have:Nat.beq cap e=false:=by
      cases hb:Nat.beq cap e with
      |true=>exact absurd (zab hb) hc
      |false=>rfl
     rw[this,cond_false,zaq]
   have hel:∀j m,(ns.drop e)[j]?=some m->eT P Φ G Γ m cc g (e+j) ((C.drop (e*ae P (Φ.ty cc)+j*ae P (Φ.ty cc))).take (ae P (Φ.ty cc))):=fun j m hj=>by
    rw[<-zbh];exact q3 _ m (hns j m hj)
   have hroom:e*ae P (Φ.ty cc)+(ns.drop e).length*ae P (Φ.ty cc)<=C.length:=by
    rw[q2,<-zbh];exact zae _ (by rw[hlen];omega)
   have hE:∀j m,(ns.drop e)[j]?=some m->eT P Φ G Γ m cc g (e+j) ((((C.drop (e*ae P (Φ.ty cc))).take ((ns.drop e).length*ae P (Φ.ty cc))).drop (j*ae P (Φ.ty cc))).take (ae P (Φ.ty cc))):=fun j m hj=>by
    rw[I4 (List.getElem?_eq_some_iff.1 hj).1 hroom];exact hel j m hj
   have kM:=uP (n:=(ns.drop e).length) (e:=ae P (Φ.ty cc)) (E:=(C.drop (e*ae P (Φ.ty cc))).take ((ns.drop e).length*ae P (Φ.ty cc))) (by have hr:=hroom;simp only[zaf,zas]at hr ⊢;omega) fun j hj=>(hE j _ (zap hj)).cl;exact⟨_,uO hv q1 hroom kM,kM,hWU,fun j m hj=>⟨_,hE j m hj⟩⟩
theorem wR {C l:List AV}{p:Nat}(h:p=C.length):nD C p l=C++l:=by
 subst h;unfold nD;rw[zcj,zcg (by omega),zbg]
theorem nZ {C:List AV}{a s k:Nat}(h:k<s):((C.drop a).take s)[k]?=C[a+k]?:=Rd.nZ h
theorem Q.Gj (hq:Q c T G Γ st){cc g:Nat}{ms ns:List Nat}{E2:List AV}{osA:List Own}(ho:st.os.Perm (osA++[.iF v cc g ms]))(hgl:g<Γ.ng)(hrw:c.Φ.raw cc=false)(hsz:0<ae c.P (c.Φ.ty cc))(hE2:E2.length=ns.length*ae c.P (c.Φ.ty cc))(kM:CL E2)(hel:∀j m,ns[j]?=some m->eT c.P c.Φ G Γ m cc g (ms.length+j) ((E2.drop (j*ae c.P (c.Φ.ty cc))).take (ae c.P (c.Φ.ty cc))))(hlim:ms.length+ns.length<=jB) :
  ∃E1,Ext G v (c.Φ.ty cc) (ae c.P (c.Φ.ty cc)) ms.length E1/\lC E1/\(∀G' v',K1 c.n0 G G' v v' (c.Φ.ty cc) (ae c.P (c.Φ.ty cc)) ms.length ns.length E1 E2->∃Γ',Q c T G' Γ' ⟨st.L,osA++[.iF v' cc g (ms++ns)],.sl v' cc g (ms++ns)::st.dQ,st.gs⟩):=by
 have hown:dO c.P c.Φ G Γ (.iF v cc g ms):=hq.own _ (ho.mem_iff.2 (by simp));obtain⟨huni,hlm,hown'⟩:=hown
 obtain⟨E1,t1,t2,t3,t4⟩:∃E1,Ext G v (c.Φ.ty cc) (ae c.P (c.Φ.ty cc)) ms.length E1/\CL E1/\E1.length=ms.length*ae c.P (c.Φ.ty cc)/\(∀j m,ms[j]?=some m->eT c.P c.Φ G Γ m cc g j ((E1.drop (j*ae c.P (c.Φ.ty cc))).take (ae c.P (c.Φ.ty cc)))):=by
  rcases hown' with ⟨h1,rfl⟩|⟨b,cap,size,C,h1,h2,h3,h4,h5⟩
  ·exact⟨[],.inl ⟨h1,rfl,rfl⟩,kN,by simp,fun j m hj=>(by simp at hj)⟩
  ·obtain⟨_,_,size',C',q1,q2,q3⟩:=hq.ht.b _ _ h2;rw[h3]at q1;simp only[Option.some.injEq,Gh.cells.injEq,true_and]at q1;obtain⟨_,rfl⟩:=q1;exact⟨C,.inr ⟨b,0,cap,size,C,h1,h3,by omega,by rw[zc,<-q2,zcj],by omega,h5⟩,uP q2 fun j hj=>(q3 j _ (zap hj)).cl,q2,q3⟩
 refine⟨E1,t1,t2.nf,fun G' v' ha'=>?_⟩
 have fin:∀(b c' size:Nat),G'=dj G b (.cells .data (c.Φ.ty cc) size (E1++E2))->v'=.cN b 0 (ms.length+ns.length) c'->c'*ae c.P (c.Φ.ty cc)<=size->ms.length+ns.length<=c'->((Own.iF v cc g ms).aS=some b∨G b=none)->(Γ.m b=some (.cells cc g ms)∨Γ.m b=none)->((G b).isSome=true∨c.n0<=b)->(∀el size C,G b≠some (.cells .raw el size C))->(∀el size' C,G b=some (.cells .data el size' C)->el=c.Φ.ty cc/\size'=size) ->
   ∃Γ',Q c T G' Γ' ⟨st.L,osA++[.iF v' cc g (ms++ns)],.sl v' cc g (ms++ns)::st.dQ,st.gs⟩:=by
  intro b c' size hG hv hcs hlc hob hΓ hgr hraw hdat;subst hG hv;have hll:(ms++ns).length=ms.length+ns.length:=zak;refine⟨updΓ Γ b (.cells cc g (ms++ns)),?_⟩
  have:=hq.A8 (b:=b) (G':=dj G b (.cells .data (c.Φ.ty cc) size (E1++E2))) (Γ':=updΓ Γ b (.cells cc g (ms++ns))) (o':=.iF (.cN b 0 (ms.length+ns.length) c') cc g (ms++ns)) (tys':=[.sl (.cN b 0 (ms.length+ns.length) c') cc g (ms++ns)]) ho (dG hgr) (fun k h=>updΓ_ne h) (fun k h=>aV h) (by rw[au];rfl) hraw (fun el size' C' h=>⟨E1++E2,by obtain⟨r1,r2⟩:=hdat _ _ _ h;subst r1 r2;exact au _ _ _⟩)
   (fun x h=>by
    rcases hΓ with h0|h0
    ·rw[h0]at h;cases h;exact⟨_,updΓ_same _ _ _,rfl,rfl,ns,rfl⟩
    ·rw[h0]at h;cases h) rfl rfl hob rfl
   (fun x hr hl h=>by
    rw[updΓ_same]at h;cases h;refine⟨⟨hgl,hrw⟩,fun h=>(by rw[huni]at h;cases h),size,E1++E2,au _ _ _,by rw[zak,t3,hE2,hll,zbh],fun k m hk=>?_⟩;by_cases hlt:k<ms.length
    ·have h1:(k+1)*ae c.P (c.Φ.ty cc)<=ms.length*ae c.P (c.Φ.ty cc):=zae _ hlt;rw[zax]at h1;rw[zda (by omega),zco (by rw[zas];omega)];rw[zau hlt]at hk;exact (t4 k m hk).le hr hl hgl
    ·rw[zay (by omega)]at hk;have h1:k*ae c.P (c.Φ.ty cc)=ms.length*ae c.P (c.Φ.ty cc)+(k-ms.length)*ae c.P (c.Φ.ty cc):=by rw[<-zbh];congr 1;omega
     rw[h1,<-t3,List.drop_append];rw[zcg (by omega),zcx,zcr];have:=hel _ m hk;rw[show ms.length+(k-ms.length)=k by omega]at this
     exact this.le hr hl hgl)
   (fun _ _=>⟨huni,by rw[hll];exact hlim,.inr ⟨b,c',size,E1++E2,by rw[hll],updΓ_same _ _ _,au _ _ _,hcs,by rw[hll];omega⟩⟩)
   (fun f hf _ _=>by
    rw[List.mem_singleton.1 hf]
    exact⟨by rw[hll];exact hlim,.inr (.inr ⟨b,c',ms++ns,size,E1++E2,by rw[hll],updΓ_same _ _ _,(zcj (l:=ms++ns)).symm,au _ _ _,hcs,by rw[hll];omega⟩)⟩)
  exact this
 rcases ha' with ⟨rfl,rfl,h1,h2,rfl⟩|⟨b,o,cap,size,C,rfl,h2,h3,h4,h5,h6,h7⟩|⟨b,c',size,h1,h2,h3,h4,h5,h6⟩
 ·obtain⟨rfl,rfl⟩:ms=[]/\ns=[]:=⟨List.length_eq_zero_iff.1 h1,List.length_eq_zero_iff.1 h2⟩;refine⟨Γ,?_⟩;have h0:=hq.iq (st':=⟨st.L,osA++[.iF .ab cc g []],st.dQ,st.gs⟩) (fun _ _ h=>h) ⟨[],by simpa using ho⟩ (fun f h=>h) (fun p h=>h)
  exact⟨h0.ml,h0.at_,h0.uB,h0.rl,h0.grow,h0.own,h0.new,h0.nd,h0.ht,fun f hm=>by
   rcases List.mem_cons.1 hm with rfl|hm
   ·exact⟨zbl _,.inl ⟨rfl,rfl⟩⟩
   ·exact h0.ty f hm,h0.gs⟩
 ·rcases hown' with ⟨h,_⟩|⟨b',cap2,size2,C2,k1,k2,k3,k4,k5⟩
  ·cases h
  ·cases k1;rw[h2]at k3;cases k3;obtain⟨_,_,size',C',q1,q2,q3⟩:=hq.ht.b _ _ k2;rw[h2]at q1;cases q1
   have hC:C=E1:=by
    rcases t1 with ⟨h,_⟩|⟨_,_,_,_,_,g1,g2,g3,g4,_⟩
    ·cases h
    ·cases g1;rw[h2]at g2;cases g2;rw[<-g4,zc,<-q2,zcj]
   subst hC;exact fin b cap size (by rw[h7,wR (by omega)]) h3 (by omega) h4 (.inl rfl) (.inl k2) (.inl (by rw[h2];rfl)) (fun _ _ _ h=>by rw[h2]at h;cases h) fun el size' C' h=>by rw[h2]at h;cases h;exact⟨rfl,rfl⟩
 ·exact fin b c' size h6 h3 h5 h4 (.inr h2) (.inr (hq.ht.none h2)) (.inr h1) (fun _ _ _ h=>by rw[h2]at h;cases h) fun _ _ _ h=>by rw[h2]at h;cases h
theorem Lp {C E:List AV}{n k j sz:Nat}(hE:E.length=k*sz)(hC:n*sz<=C.length):((nD C (n*sz) E).drop (j*sz)).take sz=if n<=j/\j<n+k then (E.drop ((j-n)*sz)).take sz else (C.drop (j*sz)).take sz:=by
 by_cases h:n<=j/\j<n+k
 ·rw[if_pos h];refine Rd.tn fun q hq=>?_;have h1:n*sz<=j*sz:=zae _ h.1;have h2:(j+1)*sz<=(n+k)*sz:=zae _ h.2;rw[zax,zbh]at h2;rw[rn hC,if_pos ⟨by omega,by rw[hE];omega⟩,Nat.sub_mul];congr 1;omega
 ·rw[if_neg h];refine Rd.tn fun q hq=>?_;rw[rn hC,if_neg]
  rintro⟨h1,h2⟩
  refine h ⟨?_,?_⟩
  ·rcases zdp j n with h3|h3
   ·have h4:(j+1)*sz<=n*sz:=zae _ h3;rw[zax]at h4;omega
   ·exact h3
  ·rcases zdp j (n+k)with h3|h3
   ·exact h3
   ·have h4:(n+k)*sz<=j*sz:=zae _ h3;rw[zbh]at h4;rw[hE]at h2;omega
theorem Pq {l:List Nat}(h:∀m∈l,m=WU):l=List.replicate l.length WU:=List.eq_replicate_iff.2 ⟨rfl,h⟩
theorem Ej {cc g:Nat}{ns:List Nat}(h:fF c.P c.Φ G Γ (.sl v cc g ns))(hu:c.Φ.gv cc=true):ns.length<=jB/\((v=.ab/\ns=[])∨∃b cap L size C,v=.cN b 0 ns.length cap/\Γ.m b=some (.cells cc g L)/\ns=L.take ns.length/\G b=some (.cells .data (c.Φ.ty cc) size C)/\cap*ae c.P (c.Φ.ty cc)<=size/\ns.length<=cap):=Rd.CV h hu
theorem Q.Gk (hq:Q c T G Γ st){cc g n:Nat}{ns:List Nat}{E2:List AV}(hv:fF c.P c.Φ G Γ (.sl v cc g ns))(hun:c.Φ.gv cc=true)(hrw:c.Φ.raw cc=false)(hg:g<Γ.ng)(hE2:E2.length=n*ae c.P (c.Φ.ty cc))(kM:CL E2)(hel:∀j,j<n->eT c.P c.Φ G Γ WU cc g (ns.length+j) ((E2.drop (j*ae c.P (c.Φ.ty cc))).take (ae c.P (c.Φ.ty cc))))(hlim:ns.length+n<=jB) :
  ∃E1,Ext G v (c.Φ.ty cc) (ae c.P (c.Φ.ty cc)) ns.length E1/\lC E1/\(∀G' v',K1 c.n0 G G' v v' (c.Φ.ty cc) (ae c.P (c.Φ.ty cc)) ns.length n E1 E2->∃Γ',Q c T G' Γ' ⟨st.L,st.os,.sl v' cc g (List.replicate (ns.length+n) WU)::st.dQ,st.gs⟩):=by
 obtain⟨hlm,htd⟩:=Ej hv hun
 obtain⟨E1,t1,t2,t3,t4⟩:∃E1,Ext G v (c.Φ.ty cc) (ae c.P (c.Φ.ty cc)) ns.length E1/\CL E1/\E1.length=ns.length*ae c.P (c.Φ.ty cc)/\(∀j,j<ns.length->eT c.P c.Φ G Γ WU cc g j ((E1.drop (j*ae c.P (c.Φ.ty cc))).take (ae c.P (c.Φ.ty cc)))):=by
  rcases htd with ⟨h1,rfl⟩|⟨b,cap,L,size,C,h1,h2,h3,h4,h5,h6⟩
  ·exact⟨[],.inl ⟨h1,rfl,rfl⟩,kN,by simp,fun j hj=>(by simp at hj)⟩
  ·obtain⟨_,q5,size',C',q1,q2,q3⟩:=hq.ht.b _ _ h2;rw[h4]at q1;cases q1;have hle:=jL h3;have hle2:ns.length*ae c.P (c.Φ.ty cc)<=C.length:=by rw[q2];exact zae _ hle
   have hlen:(C.take (ns.length*ae c.P (c.Φ.ty cc))).length=ns.length*ae c.P (c.Φ.ty cc):=by rw[zaf];omega
   have hel:∀j,j<ns.length->eT c.P c.Φ G Γ WU cc g j (((C.take (ns.length*ae c.P (c.Φ.ty cc))).drop (j*ae c.P (c.Φ.ty cc))).take (ae c.P (c.Φ.ty cc))):=fun j hlt=>by
    have h8:(j+1)*ae c.P (c.Φ.ty cc)<=ns.length*ae c.P (c.Φ.ty cc):=zae _ hlt;rw[zax]at h8;rw[Rd.tn (X:=C.take (ns.length*ae c.P (c.Φ.ty cc))) (Y:=C) (b:=j*ae c.P (c.Φ.ty cc)) fun k hk=>by rw[zbd (by omega)]];have hL:L[j]?=some L[j]:=zap (by omega);have:=q3 j _ hL;rwa[q5 hun _ (zba hL)]at this
   exact⟨C.take (ns.length*ae c.P (c.Φ.ty cc)),.inr ⟨b,0,cap,size,C,h1,h4,by omega,by rw[zc],by omega,h6⟩,uP hlen fun j hj=>(hel j hj).cl,hlen,hel⟩
 refine⟨E1,t1,t2.nf,fun G' v' ha'=>?_⟩;rcases ha' with ⟨rfl,rfl,h1,h2,rfl⟩|⟨b,o,cap,size,C,rfl,h2,h3,h4,h5,h6,h7⟩|⟨b,c',size,h1,h2,h3,h4,h5,h6⟩
 ·rw[h1,h2];refine⟨Γ,hq.ml,hq.at_,hq.uB,hq.rl,hq.grow,hq.own,hq.new,hq.nd,hq.ht,fun f hm=>?_,hq.gs⟩;rcases List.mem_cons.1 hm with rfl|hm
  ·exact⟨zbl _,.inl ⟨rfl,rfl⟩⟩
  ·exact hq.ty f hm
 ·rcases htd with ⟨h,_⟩|⟨b',cap2,L,size2,C2,k1,k2,k3,k4,k5,k6⟩
  ·cases h
  ·cases k1;rw[h2]at k4;cases k4;obtain⟨q0,q5,size',C',q1,q2,q3⟩:=hq.ht.b _ _ k2;rw[h2]at q1;cases q1;have hle:=jL k3;have hle2:ns.length*ae c.P (c.Φ.ty cc)<=C.length:=by rw[q2];exact zae _ hle
   rw[zaq]at h7;have hLL:(L++List.replicate (ns.length+n-L.length) WU).length=max L.length (ns.length+n):=by rw[zak,zai];omega
   have hLu:∀m∈L++List.replicate (ns.length+n-L.length) WU,m=WU:=fun m hm=>(List.mem_append.1 hm).elim (q5 hun m) fun h=>zbs h;subst h7 h3;refine⟨updΓ Γ b (.cells cc g (L++List.replicate (ns.length+n-L.length) WU)),?_⟩
   have:=hq.Pj (b:=b) (x:=.cells cc g L) (y:=.cells cc g (L++List.replicate (ns.length+n-L.length) WU)) (g':=.cells .data (c.Φ.ty cc) size (nD C (ns.length*ae c.P (c.Φ.ty cc)) E2)) (tys':=[.sl (.cN b 0 (ns.length+n) cap) cc g (List.replicate (ns.length+n) WU)]) k2 (by show (!c.Φ.gv cc)=false;rw[hun];rfl) ⟨rfl,rfl,_,rfl⟩ (fun el size' C' h=>by rw[h2]at h;cases h;exact⟨_,rfl⟩)
    (fun hr hl=>⟨q0,fun _=>hLu,size,_,au _ _ _,by
     rw[mc hle2,hLL,q2,hE2,<-zbh];rcases Nat.le_total L.length (ns.length+n)with h|h
     ·rw[Nat.max_eq_right h,Nat.max_eq_right (zae _ h)]
     ·rw[Nat.max_eq_left h,Nat.max_eq_left (zae _ h)],fun j m hj=>by
     rw[Lp hE2 hle2];have hm:m=WU:=hLu m (zba hj);subst hm;by_cases h:ns.length<=j/\j<ns.length+n
     ·rw[if_pos h];have:=hel (j-ns.length) (by omega);rw[show ns.length+(j-ns.length)=j by omega]at this;exact this.le hr hl hg
     ·rw[if_neg h];have hj':=(List.getElem?_eq_some_iff.1 hj).1;rw[hLL]at hj';have hL:L[j]?=some L[j]:=zap (by omega);have:=q3 j _ hL;rw[q5 hun _ (zba hL)]at this
      exact this.le hr hl hg⟩)
    (fun f hf=>by
     rw[List.mem_singleton.1 hf];refine⟨by rw[zai];exact hlim,.inr (.inr ⟨b,cap,_,size,_,by rw[zai],updΓ_same _ _ _,?_,au _ _ _,by omega,by rw[zai];omega⟩)⟩;rw[Pq hLu,List.take_replicate,zai,hLL]
     congr 1;omega) (fun _ _ h=>by cases h)
   rw[<-zaq (ns.length*ae c.P (c.Φ.ty cc))]at this ⊢;exact this
 ·subst h6 h3;refine⟨updΓ Γ b (.cells cc g (List.replicate (ns.length+n) WU)),?_⟩;have:=hq.Ln (b:=b) (cc:=cc) (g:=g) (L:=List.replicate (ns.length+n) WU) (size:=size) (C:=E1++E2) (tys':=[.sl (.cN b 0 (ns.length+n) c') cc g (List.replicate (ns.length+n) WU)]) h1 h2 hg hrw (fun _ m hm=>zbs hm) (by rw[zak,t3,hE2,zai,zbh]) (fun k m hk=>?_) (fun f hf=>?_)
  ·exact this
  ·have hm:m=WU:=zbs (zba hk);have hkn:=(List.getElem?_eq_some_iff.1 hk).1;rw[zai]at hkn;subst hm;by_cases hlt:k<ns.length
   ·have h1:(k+1)*ae c.P (c.Φ.ty cc)<=ns.length*ae c.P (c.Φ.ty cc):=zae _ hlt;rw[zax]at h1;rw[zda (by omega),zco (by rw[zas];omega)];exact t4 k hlt
   ·have h1:k*ae c.P (c.Φ.ty cc)=ns.length*ae c.P (c.Φ.ty cc)+(k-ns.length)*ae c.P (c.Φ.ty cc):=by rw[<-zbh];congr 1;omega
    rw[h1,<-t3,List.drop_append];rw[zcg (by omega),zcx,zcr];have:=hel (k-ns.length) (by omega);rw[show ns.length+(k-ns.length)=k by omega]at this;exact this
  ·rw[List.mem_singleton.1 hf];exact⟨by rw[zai];exact hlim,.inr (.inr ⟨b,c',_,size,_,by rw[zai],updΓ_same _ _ _,by rw[zai,zbz (by rw[zai];omega)],au _ _ _,h5,by rw[zai];omega⟩)⟩
end
end Go.Rt
