/- Part Xdc of the proof of CollectEnds: no condition. -/
import Derived.Test.YtmabojcaklojhaaGreatXdb
import Derived.Test.YtmabojcaklojhaaGreatXad
set_option linter.unusedSimpArgs false
set_option linter.unusedVariables false
namespace Go.Rd
open Go.aI Go.RowKit Go.Rt
def Pr:K2->K2->Bool
 |.int a,.int b=>gB a b
 |.nat a,.nat b=>Nat.beq a b
 |.pos a,.pos b=>Nat.beq a b
 |.str,.str=>true
 |.rp,.rp=>true
 |.sU,.sU=>true
 |.bool,.bool=>true
 |.oz a,.oz b=>pg a b
 |.sl a,.sl b=>Nat.beq a b
 |.BD a a',.BD b b'=>Nat.beq a b&&Nat.beq a' b'
 |.x5 a a',.x5 b b'=>Nat.beq a b&&Nat.beq a' b'
 |.yY a a',.yY b b'=>Nat.beq a b&&Nat.beq a' b'
 |.AR a,.AR b=>Nat.beq a b
 |.rq a,.rq b=>Nat.beq a b
 |.DU a a',.DU b b'=>Nat.beq a b&&Nat.beq a' b'
 |.Ct a a',.Ct b b'=>Nat.beq a b&&Nat.beq a' b'
 |.ptr a,.ptr b=>Nat.beq a b
 |.DV a,.DV b=>Nat.beq a b
 |.mp a,.mp b=>Nat.beq a b
 |.DW a,.DW b=>Nat.beq a b
 |_,_=>false
theorem I5 {a b:K2}(h:Pr a b=true):a=b:=by
 cases a<;>cases b<;>simp only[Pr,zag,za,gB,pg,decide_eq_true_eq]at h
 all_goals first
  |rfl
  |(subst h;rfl)
  |(have:=zab h;subst this;rfl)
  |(obtain⟨h1,h2⟩:=h;have:=zab h1;have:=zab h2;subst_vars;rfl)
def QD:List K2->List K2->Bool
 | [],[]=>true
 |a::as,b::bs=>Pr a b&&QD as bs
 |_,_=>false
theorem CX:∀{a b:List K2},QD a b=true->a=b
 | [],[],_=>rfl
 |a::as,b::bs,h=>by
  have h:(Pr a b&&QD as bs)=true:=h;rw[za]at h;rw[I5 h.1,CX h.2]
 | [],_::_,h=>by cases h
 |_::_,[],h=>by cases h
def Uz (Φ:Forms):K2->Bool
 |.int _=>true|.str=>true|.bool=>true|.oz _=>true
 |.sl c=>!Φ.dep c&&!Φ.via c
 |.BD c _=>!Φ.dep c&&!Φ.via c
 |.Ct c _=>!Φ.dep c&&!Φ.via c
 |.ptr c=>!Φ.dep c&&!Φ.via c
 |.DV c=>!Φ.dep c&&!Φ.via c
 |.mp c=>!Φ.dep c&&!Φ.via c
 |.DW c=>!Φ.dep c&&!Φ.via c
 |_=>false
def Ps:K2->Bool|.rp=>false|.sU=>false|.AR _=>false|.DU _ _=>false|_=>true
theorem Ek:∀{l:List Nat}{m:Nat},m∈l->m<=l.sum
 | [],_,h=>by cases h
 |a::l,m,h=>by
  rw[zd];rcases List.mem_cons.1 h with rfl|h
  ·omega
  ·have:=Ek h;omega
theorem uQ {Φ:Forms}{cc:Nat}(h:(!Φ.dep cc&&!Φ.via cc)=true)(d:Gd)(g:Nat):gi Φ d g cc=0:=by
 rw[za,zaj,zaj]at h;unfold gi;rw[h.1,h.2];rfl
theorem Lq {Φ:Forms}{d d':Gd}{g g' j j':Nat}{k:K2}{v:AV}{f:List TF}(hk:Uz Φ k=true)(h:Kv Φ d g j k v f):Kv Φ d' g' j' k v f:=by
 cases k with
 |int k=>exact h
 |str=>exact h
 |bool=>exact h
 |oz k=>exact h
 |sl c=>obtain⟨ns,h⟩:=h;exact⟨ns,by rw[uQ hk]at h ⊢;exact h⟩
 |BD c b=>obtain⟨ns,h,h'⟩:=h;exact⟨ns,by rw[uQ hk]at h ⊢;exact h,h'⟩
 |Ct c b=>obtain⟨ns,h,h'⟩:=h;exact⟨ns,by rw[uQ hk]at h ⊢;exact h,h'⟩
 |ptr c=>have h:f=[.pt v c (gi Φ d g c)]:=h;show f=_;rw[uQ hk]at h ⊢;exact h
 |DV c=>rcases h with h|h
        ·exact .inl h
        ·exact .inr (by rw[uQ hk]at h ⊢;exact h)
 |mp c=>have h:f=[.mp v c (gi Φ d g c)]:=h;show f=_;rw[uQ hk]at h ⊢;exact h
 |DW c=>rcases h with h|h
        ·exact .inl h
        ·exact .inr (by rw[uQ hk]at h ⊢;exact h)
 |_=>cases hk
theorem I6 {Φ:Forms}{d:Gd}{g j j':Nat}{k:K2}{v:AV}{f:List TF}(hk:Ps k=true)(h:Kv Φ d g j k v f):Kv Φ d g j' k v f:=by
 cases k<;>first|exact h|cases hk
theorem Bb {Φ:Forms}{d d':Gd}{g g' j j':Nat}:∀{ks:List K2}{cs:List AV}{fs:List TF},ks.all (Uz Φ)=true->ia Φ d g j ks cs fs->ia Φ d' g' j' ks cs fs
 | [],_,_,_,h=>h
 |k::ks,_,_,hk,⟨v,cs',f,fs',h1,h2,h3,h4⟩=>by
  rw[zdk,za]at hk;exact⟨v,cs',f,fs',h1,h2,Lq hk.1 h3,Bb hk.2 h4⟩
theorem n6 {Φ:Forms}{d:Gd}{g j j':Nat}:∀{ks:List K2}{cs:List AV}{fs:List TF},ks.all Ps=true->ia Φ d g j ks cs fs->ia Φ d g j' ks cs fs
 | [],_,_,_,h=>h
 |k::ks,_,_,hk,⟨v,cs',f,fs',h1,h2,h3,h4⟩=>by
  rw[zdk,za]at hk;exact⟨v,cs',f,fs',h1,h2,I6 hk.1 h3,n6 hk.2 h4⟩
def Gl (Φ:Forms)(cc g cc' g':Nat):Bool:=QD (Φ.ks cc) (Φ.ks cc')&&((Φ.ks cc).all (Uz Φ)||(Nat.beq g g'&&(Φ.ks cc).all Ps))
section
variable {c:Cx}{T:Tm}{G:GH}{Γ:dy}{ρ ρ':aZ}{s s':SS}{cf:Cf}{ops:Array Oper}{i d:Nat}
theorem I7 {cc g cc' g' m j j':Nat}{cs:List AV}(h:Gl c.Φ cc g cc' g'=true)(he:eT c.P c.Φ G Γ m cc' (ig ρ g') j' cs):eT c.P c.Φ G Γ m cc (ig ρ g) j cs:=by
 unfold Gl at h;rw[za,zar,za]at h;obtain⟨h1,h2⟩:=h;have h1:=CX h1;obtain⟨fs,e1,e2,e3⟩:=he;rw[<-h1]at e1;refine⟨fs,?_,e2,e3⟩;rcases h2 with h2|⟨h2,h3⟩
 ·exact Bb h2 e1
 ·have:=ai h2;subst this;exact n6 h3 e1
def Gm (cf:Cf)(s:SS)(g cc:Nat)(sz:Nat)(j:LE):Nat->List SC->Option (List LE)
 |0,_=>some []
 |n+1,cs=>match pA cf s g (ghost s.gs g) j (cf.Φ.ks cc) (cs.take sz),Gm cf s g cc sz (j.bk 1) n (cs.drop sz)with
  |some os,some l=>some (iG os::l)
  |_,_=>none
def yA:List LE->LE
 | []=>.k 0
 |e::l=>(e.add (yA l)).bk 1
theorem Gp (ρ:aZ)(cs:List SC)(n:Nat):aB ρ (cs.drop n)=(aB ρ cs).drop n:=by simp[aB,List.map_drop]
theorem Lr (ρ:aZ)(cs:List SC)(n:Nat):aB ρ (cs.take n)=(aB ρ cs).take n:=by simp[aB,List.map_take]
theorem yB {g cc sz:Nat}(hΦ:cf.Φ=c.Φ)(hk:Ok c T G Γ ρ s):∀{n:Nat}{cs:List SC}{j:LE}{q:Nat}{l:List LE},Gm cf s g cc sz j n cs=some l->0<=j.ev ρ->q=(j.ev ρ).toNat ->
  ∃ns:List Nat,ns.length=n/\((ns.sum+ns.length:Nat):Int)=(yA l).ev ρ/\(∀k m,ns[k]?=some m->eT c.P c.Φ G Γ m cc (ig ρ g) (q+k) (((aB ρ cs).drop (k*sz)).take sz))/\∀m∈ns,∃e∈l,e.ev ρ=(m:Int)
 |0,cs,j,q,l,h,_,_=>by cases h;exact⟨[],rfl,by rw[yA,LE.bz];rfl,fun k m h=>by simp at h,fun m h=>by cases h⟩
 |n+1,cs,j,q,l,h,hj,hJ=>by
  unfold Gm at h;split at h
  ·rename_i os l' h1 h2;cases h;rw[hΦ]at h1;obtain⟨fs,a1,a2,a3⟩:=mh hΦ hk (fun dv h=>cR h hk) ⟨hj,hJ⟩ h1;obtain⟨ns,b1,b2,b3,b4⟩:=yB hΦ hk h2 (by rw[LE.aO];omega) rfl;rw[Lr]at a1;refine⟨iO c.Φ fs::ns,by simp[b1],?_,fun k m hkm=>?_,fun m hm=>?_⟩
   ·rw[yA,LE.aO,LE.ib,<-b2,a2];simp only[zd,zbi];omega
   ·cases k with
    |zero=>cases hkm;rw[zbw,zc,zbu];exact⟨fs,a1,zad _,a3⟩
    |succ k =>
     have:=b3 k m hkm;rw[Gp,zcq,LE.aO]at this;rw[show q+(k+1)=(j.ev ρ+1).toNat+k by omega,show (k+1)*sz=sz+k*sz by rw[zax,Nat.add_comm]];exact this
   ·rcases List.mem_cons.1 hm with rfl|hm
    ·exact⟨_,zac ..,a2⟩
    ·obtain⟨e,h1,h2⟩:=b4 m hm;exact⟨e,zaa _ h1,h2⟩
  ·cases h
def Bc (cf:Cf)(s:SS)(cc g:Nat)(j:LE)(u:SV):Option (LE×LE):=match u with
 |.v false [.ab]=>some (.k 0,.k 0)
 |.v false [.ref y]=>(match py s.ty y with
  |some (c',g')=>bif Nat.beq (cf.Φ.ty cc) (cf.Φ.ty c')&&(Gl cf.Φ cc g c' g'&&(!cf.Φ.gv cc||(cf.Φ.gv c'||bo s ((LE.k WU).sub (.a (.wt y))))))then some (.a (.len y),.a (.wt y))else none
  |none=>none)
 |.v false [.wE b n]=>(match ic s.os b with
  |some (el,cs)=>bif Nat.beq cs.length (n*ae cf.P (cf.Φ.ty cc))&&bo s j then
   (match Gm cf s g cc (ae cf.P (cf.Φ.ty cc)) j n cs with
    |some l=>bif !cf.Φ.gv cc||l.all (fun e=>bo s ((LE.k WU).sub e))then some (.k n,yA l)else none
    |none=>none)
   else none
  |none=>none)
 |.slt y e sz=>(match py s.ty y with
  |some (c',g')=>bif Nat.beq (cf.Φ.ty cc) (cf.Φ.ty c')&&(Gl cf.Φ cc g c' g'&&(cf.Φ.gv c'&&(Nat.beq sz (ae cf.P (cf.Φ.ty c'))&&(bo s e&&bo s ((LE.a (.len y)).sub e)))))then some ((LE.a (.len y)).sub e,((LE.a (.len y)).sub e).nG (.ofNat (WU+1)))else none
  |none=>none)
 |_=>none
theorem I8:∀{l:List Nat},(∀m∈l,m=WU)->l.sum=l.length*WU
 | [],_=>by simp
 |a::l,h=>by
  rw[zd,I8 (l:=l) fun m hm=>h m (zaa _ hm),h a (zac ..),zbi,zax,Nat.add_comm]
theorem yC {cc g q:Nat}{j:LE}{u:SV}{n w:LE}(hP:cf.P=c.P)(hΦ:cf.Φ=c.Φ)(h:Bc cf s cc g j u=some (n,w))(hk:Ok c T G Γ ρ s)(hJ:q=(j.ev ρ).toNat)(hsz:0<ae c.P (c.Φ.ty cc)) :
  ∃(ns:List Nat) (E:List AV),AK c.P c.n0 c.nt T c.hp c.nx G (ae c.P (c.Φ.ty cc)) ns.length (u.den ρ) E/\CL E/\n.ev ρ=(ns.length:Int)/\w.ev ρ=((ns.sum+ns.length:Nat):Int)/\E.length=ns.length*ae c.P (c.Φ.ty cc)/\(∀k m,ns[k]?=some m->eT c.P c.Φ G Γ m cc (ig ρ g) (q+k) ((E.drop (k*ae c.P (c.Φ.ty cc))).take (ae c.P (c.Φ.ty cc))))/\(c.Φ.gv cc=true->∀m∈ns,m<=WU):=by
 unfold Bc at h;rw[hP,hΦ]at h;split at h
 ·cases h;exact⟨[],[],qC rfl,kN,by rw[LE.bz];rfl,by rw[LE.bz];rfl,by simp,fun k m h=>by simp at h,fun _ m h=>by cases h⟩
 ·rename_i y;split at h
  ·rename_i c' g' hf;cases hb:(Nat.beq (c.Φ.ty cc) (c.Φ.ty c')&&(Gl c.Φ cc g c' g'&&(!c.Φ.gv cc||(c.Φ.gv c'||bo s ((LE.k WU).sub (.a (.wt y)))))))with
   |false=>rw[hb]at h;cases h
   |true =>
    rw[hb]at h;cases h;rw[za,za]at hb;obtain⟨b1,b2,b3⟩:=hb;have b1:=ai b1;have ht:fF c.P c.Φ G Γ (.sl (ρ y).vv c' (ig ρ g') (ρ y).ns):=hk.ty (gE hf);obtain⟨E,e1,e2,e3⟩:=ht.src (n0:=c.n0) (nt:=c.nt) (T:=T) hk.q.ht;rw[<-b1]at e1 e3;refine⟨(ρ y).ns,E,e1,e2,by rw[LE.aQ];rfl,by rw[LE.aQ];rfl,e1.1,fun k m hkm=>I7 b2 (e3 k m hkm),fun hu m hm=>?_⟩;rw[hu]at b3;simp only[zcz,zcp,zar]at b3;rcases b3 with b3|b3
    ·obtain⟨_,htd⟩:=Ej ht b3;rcases htd with ⟨_,h0⟩|⟨b,cap,L,size,C,h1,h2,h3,_⟩
     ·rw[h0]at hm;cases hm
     ·obtain⟨_,q5,_⟩:=hk.q.ht.b _ _ h2;rw[h3]at hm;exact zdz (q5 b3 _ (zds hm))
    ·have:=ax b3 hk.sat;rw[LE.aw,LE.bz,LE.aQ]at this;have this:0<=(WU:Int)-(((ρ y).ns.sum+(ρ y).ns.length:Nat):Int):=this;have h5:m<=(ρ y).ns.sum:=Ek hm;omega
  ·cases h
 ·rename_i b n0;split at h
  ·rename_i el cs hl;cases hb:(Nat.beq cs.length (n0*ae c.P (c.Φ.ty cc))&&bo s j)with
   |false=>rw[hb]at h;cases h
   |true =>
    rw[hb]at h;simp only[cond_true]at h;rw[za]at hb;obtain⟨b1,b2⟩:=hb;have b1:=ai b1;split at h
    ·rename_i l hel;cases hb3:(!c.Φ.gv cc||l.all (fun e=>bo s ((LE.k WU).sub e)))with
     |false=>rw[hb3]at h;cases h
     |true =>
      rw[hb3]at h;cases h;obtain⟨ns,k1,k2,k3,k4⟩:=yB hΦ hk hel (ax b2 hk.sat) hJ;have hG:=hk.loc hl;have hlen:(aB ρ cs).length=cs.length:=by simp[aB]
      have hw:(((aB ρ cs).drop 0).take (ns.length*ae c.P (c.Φ.ty cc)))=aB ρ cs:=by rw[zc,k1,<-b1,<-hlen,zcj]
      have kM:CL (aB ρ cs):=fun v hv=>by
       obtain⟨x,_,rfl⟩:=List.mem_map.1 hv;exact⟨(A4 x ρ).1,(A4 x ρ).2.1⟩
      have hs:=uO (hp:=c.hp) (nx:=c.nx) (P:=c.P) (n0:=c.n0) (nt:=c.nt) (T:=T) (sz:=ae c.P (c.Φ.ty cc)) (v:=(SV.v false [SC.wE b n0]).den ρ) (len:=ns.length) (cap:=n0) (o:=0) (by rw[k1];rfl) hG (by rw[hlen,b1,k1];omega) (by rw[hw];exact kM);rw[hw]at hs;refine⟨ns,_,hs,kM,by rw[LE.bz,k1],k2.symm,hs.1,k3,fun hu m hm=>?_⟩;rw[hu]at hb3;simp only[zcz,zcp]at hb3;obtain⟨e,e1,e2⟩:=k4 m hm;have:=ax (List.all_eq_true.1 hb3 e e1) hk.sat;rw[LE.aw,LE.bz,e2]at this;omega
    ·cases h
  ·cases h
 ·rename_i y e sz;split at h
  ·rename_i c' g' hf;cases hb:(Nat.beq (c.Φ.ty cc) (c.Φ.ty c')&&(Gl c.Φ cc g c' g'&&(c.Φ.gv c'&&(Nat.beq sz (ae c.P (c.Φ.ty c'))&&(bo s e&&bo s ((LE.a (.len y)).sub e))))))with
   |false=>rw[hb]at h;cases h
   |true =>
    rw[hb]at h;cases h;simp only[za]at hb;obtain⟨b1,b2,b3,b4,b5,b6⟩:=hb;have b1:=ai b1;have b4:=ai b4;subst b4;have e1:=ax b5 hk.sat;have e2:=ax b6 hk.sat;rw[LE.aw,LE.aQ]at e2;have e2:0<=((ρ y).ns.length:Int)-e.ev ρ:=e2;have ht:fF c.P c.Φ G Γ (.sl (ρ y).vv c' (ig ρ g') (ρ y).ns):=hk.ty (gE hf);obtain⟨E,q1,q2,q3,q4⟩:=ht.Uy (n0:=c.n0) (nt:=c.nt) (T:=T) (e:=(e.ev ρ).toNat) b3 hk.q.ht (by omega);have hl:(((ρ y).ns.drop (e.ev ρ).toNat).length:Int)=((ρ y).ns.length:Int)-e.ev ρ:=by rw[zas];omega
    have hd:∀m∈(ρ y).ns.drop (e.ev ρ).toNat,m=WU:=fun m hm=>q3 m (List.mem_of_mem_drop hm);rw[<-b1]at q1 q4;refine⟨(ρ y).ns.drop (e.ev ρ).toNat,E,by rw[<-b1];exact q1,q2,?_,?_,q1.1,fun k m hkm=>?_,fun _ m hm=>zdz (hd m hm)⟩
    ·rw[LE.aw,LE.aQ];exact hl.symm
    ·rw[LE.iM,LE.aw,LE.aQ];show ((WU+1:Nat):Int)*(((ρ y).ns.length:Int)-e.ev ρ)=_;rw[<-hl,I8 hd]
     push_cast
     rw[Int.add_mul,Int.one_mul,Int.mul_comm]
    ·obtain⟨j',hj'⟩:=q4 k m hkm;exact I7 b2 hj'
  ·cases h
 ·cases h
def CY (P:Program)(e:TypeId):Nat:=Nat.min ((281474976710656/P.bytesOf e-12288)/16) jB
theorem yD {P:Program}{e n:Nat}(h:n<=CY P e)(hb:P.bytesOf e<=1000000):(16*n+12288)*P.bytesOf e<=281474976710656/\n<=jB:=by
 have h1:n<=(281474976710656/P.bytesOf e-12288)/16:=zam h (Nat.min_le_left _ _);refine⟨?_,zam h (Nat.min_le_right _ _)⟩;rcases Nat.eq_zero_or_pos (P.bytesOf e)with h0|h0
 ·rw[h0,Nat.mul_zero];omega
 ·have h2:281474976<=281474976710656/P.bytesOf e:=(Nat.le_div_iff_mul_le h0).2 (by
    have:=Nat.mul_le_mul_left 281474976 hb
    omega)
  have h3:281474976710656/P.bytesOf e*P.bytesOf e<=281474976710656:=Nat.div_mul_le_self _ _;have h4:16*n+12288<=281474976710656/P.bytesOf e:=by omega
  exact zam (zae _ h4) h3
def jR (s:SS)(a b:LE):SS:=aP (aP s (a.sub b)) (b.sub a)
theorem Ok.jR {a b:LE}(h:Ok c T G Γ ρ s)(he:a.ev ρ=b.ev ρ):Ok c T G Γ ρ (jR s a b):=(h.aP (by rw[LE.aw];omega)).aP (by rw[LE.aw];omega)
def Pt (x c g:Nat):SO->Bool|.iF y c' g'=>Nat.beq y x&&(Nat.beq c' c&&Nat.beq g' g)|_=>false
def wS:List SO->Nat->Nat->Nat->Option (List SO)
 | [],_,_,_=>none
 |o::l,x,cc,g=>bif Pt x cc g o then some l else (wS l x cc g).map (o::·)
theorem Be:∀{l l':List SO}{x cc g:Nat},wS l x cc g=some l'->l.Perm (l'++[.iF x cc g])
 | [],_,_,_,_,h=>by cases h
 |o::l,l',x,cc,g,h=>by
  have h:(bif Pt x cc g o then some l else (wS l x cc g).map (o::·))=some l':=h;cases hb:Pt x cc g o with
  |true =>
   rw[hb]at h;cases h;cases o<;>first|(cases hb;done)|skip
   rename_i y c' g';have hb:(Nat.beq y x&&(Nat.beq c' cc&&Nat.beq g' g))=true:=hb;rw[za,za]at hb;have:=ai hb.1;have:=ai hb.2.1;have:=ai hb.2.2;subst_vars;exact (zce _ _).symm
  |false =>
   rw[hb]at h;cases hr:wS l x cc g with
   |none=>rw[hr]at h;cases h
   |some l2=>rw[hr]at h;cases h;exact (Be hr).cons _
def CZ (P:Program)(ts tx:TypeId):Option TypeId:=match P.underlying ts,P.underlying tx with
 |some (.slice e),some (.slice _)=>(match ((zeroOf P e).bind sW).bind dN with
  |some z=>bif Nat.ble (P.bytesOf e) 1000000&&(Nat.beq z.length (ae P e)&&Nat.blt 0 (ae P e))then some e else none
  |none=>none)
 |_,_=>none
theorem yE {P:Program}{ts tx e:TypeId}(h:CZ P ts tx=some e):P.underlying ts=some (.slice e)/\(∃e',P.underlying tx=some (.slice e'))/\∃z,zeroOf P e=some z/\(Nat.ble (P.bytesOf e) 1000000&&(Nat.beq z.cells.length (ae P e)&&Nat.blt 0 (ae P e)))=true:=by
 unfold CZ at h;split at h
 ·rename_i e0 e1 h1 h2;cases hz:zeroOf P e0 with
  |none=>rw[hz]at h;cases h
  |some z =>
   rw[hz]at h;simp only[zcb]at h;cases hv:sW z with
   |none=>rw[hv]at h;cases h
   |some w =>
    rw[hv]at h;simp only[zcb]at h;cases hc:dN w with
    |none=>rw[hc]at h;cases h
    |some cs =>
     rw[hc]at h;simp only at h
     have hz2:z.cells.length=cs.length:=by
      rw[<-jc hv (fun _=>.n 0),fy hc];simp[aB]
     cases hb:(Nat.ble (P.bytesOf e0) 1000000&&(Nat.beq cs.length (ae P e0)&&Nat.blt 0 (ae P e0)))with
     |false=>rw[hb]at h;cases h
     |true=>rw[hb]at h;cases h;exact⟨h1,⟨e1,h2⟩,z,hz,by rw[hz2];exact hb⟩
 ·cases h
def Gj (cf:Cf)(e:TypeId)(d cc g:Nat)(osA:List SO)(len wt:LE)(u:SV)(s:SS)(K:SS->R):R:=bif Nat.beq (cf.Φ.ty cc) e&&(pr s g&&(bJ s.nx g&&!cf.Φ.raw cc))then
    (match Bc cf s cc g len u with
     |some (n,w)=>bif bo s ((LE.k (CY cf.P e)).sub (len.add n))&&((len.add n).lt s.nx&&((wt.add w).lt s.nx&&osA.all (SO.lt s.nx)))then
      fresh s fun x s=>K (fZ (jR (jR (aY (dm s (osA++[.iF x cc g])) (.sl x cc g)) (.a (.len x)) (len.add n)) (.a (.wt x)) (wt.add w)) d (sc (.ref x)))
      else .bad 120 s
     |none=>.bad 121 s)
 else .bad 122 s
def Gk (cf:Cf)(e:TypeId)(d cc g:Nat)(len:LE)(u:SV)(s:SS)(K:SS->R):R:=bif Nat.beq (cf.Φ.ty cc) e&&(pr s g&&!cf.Φ.raw cc)then
    (match Bc cf s cc g len u with
     |some (n,_)=>bif bo s ((LE.k (CY cf.P e)).sub (len.add n))&&((len.add n).lt s.nx&&bJ s.nx g)then
      fresh s fun x s=>K (fZ (jR (aY s (.sl x cc g)) (.a (.len x)) (len.add n)) d (sc (.ref x)))
      else .bad 123 s
     |none=>.bad 124 s)
 else .bad 125 s
def rA (cf:Cf)(ts tx:TypeId)(d:Nat)(v u:SV)(an:Option (Nat×Nat))(s:SS)(K:SS->R):R:=match CZ cf.P ts tx,v with
 |some e,.v false [.ab]=>(match an with
  |some (cc,g)=>bif cf.Φ.gv cc then Gk cf e d cc g (.k 0) u s K else Gj cf e d cc g s.os (.k 0) (.k 0) u s K
  |none=>.bad 126 s)
 |some e,.v false [.ref x]=>(match py s.ty x with
  |some (cc,g)=>bif cf.Φ.gv cc then Gk cf e d cc g (.a (.len x)) u s K else
   (match wS s.os x cc g with|some osA=>Gj cf e d cc g osA (.a (.len x)) (.a (.wt x)) u s K|none=>.bad 127 s)
  |none=>.bad 128 s)
 |_,_=>.bad 129 s
theorem St.ext' {a b:St}(h1:a.L=b.L)(h2:a.os=b.os)(h3:a.dQ=b.dQ)(h4:a.gs=b.gs):a=b:=by cases a;cases b;cases h1;cases h2;cases h3;cases h4;rfl
theorem dB {K:Nat->SS->R}(h:(fresh s K).Ok):s.ok=true:=by
 unfold fresh at h;cases hs:s.ok with
 |true=>rfl
 |false=>rw[hs]at h;cases h
theorem El {cl:Call}{ts tx e:TypeId}{ys yx:Operand}{cc g:Nat}{osA:List SO}{len wt:LE}{v u:SV}{ms:List Nat}{K:SS->R}(hg:(af ops i).guard=none)(hd:(af ops i).dst=some d)(hlt:d<c.nt)(ho:(af ops i).op=.call cl)(hc:cl.callee=.builtin .append)(ht:cl.argTypes.toList=[ts,tx])(hx:cl.args.toList=[ys,yx])
  (hP:cf.P=c.P) (hΦ:cf.Φ=c.Φ) (rA:CZ c.P ts tx=some e) (h:(Gj cf e d cc g osA len wt u s K).Ok) (hk:Ok c T G Γ ρ s) (hv:bH c.nt T ys (v.den ρ)) (hu:bH c.nt T yx (u.den ρ)) (hq:Q c T G Γ ⟨(s.den ρ).L,osA.map (SO.den ρ)++[.iF (v.den ρ) cc (ig ρ g) ms],(s.den ρ).dQ,(s.den ρ).gs⟩) (hl:len.ev ρ=(ms.length:Int)) (hw:wt.ev ρ=((ms.sum+ms.length:Nat):Int)):Hv c T G Γ ops i s ρ K:=by
 unfold Gj at h;rw[hP,hΦ]at h;cases hb:(Nat.beq (c.Φ.ty cc) e&&(pr s g&&(bJ s.nx g&&!c.Φ.raw cc)))with
 |false=>rw[hb]at h;cases h
 |true =>
  rw[hb]at h;simp only[za,zaj]at hb;obtain⟨hb,hgi,hgl,hrw⟩:=hb;have hglt:=gJ hgi hk;have hb:=ai hb;subst hb;simp only[cond_true]at h;cases hsr:Bc cf s cc g len u with
  |none=>rw[hsr]at h;cases h
  |some p =>
   obtain⟨n,w⟩:=p;rw[hsr]at h;simp only at h;cases hf:(bo s ((LE.k (CY c.P (c.Φ.ty cc))).sub (len.add n))&&((len.add n).lt s.nx&&((wt.add w).lt s.nx&&osA.all (SO.lt s.nx))))with
   |false=>rw[hf]at h;cases h
   |true =>
    rw[hf]at h;simp only[cond_true]at h;simp only[za]at hf;obtain⟨f1,f2,f3,f4⟩:=hf;obtain⟨h1,⟨e',h2⟩,zz,h3,h4⟩:=yE rA;have h5:=h4;simp only[za]at h5;have hsz:=av h5.2.2;have hJ:ms.length=(len.ev ρ).toNat:=by rw[hl];rfl
    obtain⟨ns,E,k1,k2,k3,k4,k5,k6,k7⟩:=yC hP hΦ hsr hk hJ hsz;have hcap:=ax f1 hk.sat;rw[LE.aw,LE.bz,LE.ib,hl,k3]at hcap;obtain⟨c1,c2⟩:=yD (P:=c.P) (e:=c.Φ.ty cc) (n:=ms.length+ns.length) (by omega) (aK h5.1);obtain⟨E1,x1,x2,x3⟩:=hq.Gj (ns:=ns) (E2:=E) (osA:=osA.map (SO.den ρ)) (ms:=ms) (v:=v.den ρ) (cc:=cc) (g:=ig ρ g) (List.Perm.refl _) hglt hrw hsz k5 k2 k6 c2;refine gm.yw hg hd hlt ho hc ht hx h1 h2 (fun k h=>by cases h) h3 h4 hv hu x1 x2 k1 c1 (zam c2 (by unfold jB;omega)) fun v' G' ha hnf=>?_;obtain⟨Γ',hq'⟩:=x3 G' v' ha;have href:cr v'=true:=uN (hq'.ty _ (zac ..));have hlim:(ms++ns).length<=jB:=by rw[zak];exact c2
    obtain⟨r1,r2,r3,r4⟩:=aA h hk (.v v' (ms++ns));have hv':(ρ.up s.nx (.v v' (ms++ns)) s.nx).vv=v':=by rw[r4];exact U.jl href
    have hn':(ρ.up s.nx (.v v' (ms++ns)) s.nx).ns=ms++ns:=by rw[r4];exact U.iw hlim
    have eD:=(SS.bG (dB h) r2).1;have eO:osA.map (SO.den (ρ.up s.nx (.v v' (ms++ns))))=osA.map (SO.den ρ):=zav fun o ho=>SO.bG r2 (List.all_eq_true.1 f4 o ho);refine⟨rfl,rfl,Γ',_,_,r1,r2,zan _,?_⟩
    have hbase:Ok c T G' Γ' (ρ.up s.nx (.v v' (ms++ns))) (aY (dm (aC s) (osA++[.iF s.nx cc g])) (.sl s.nx cc g)):=by
     refine⟨⟨r3.sat.fs,r3.sat.bs,r3.sat.pw,r3.sat.ats,r3.sat.cU,r3.sat.ne,r3.sat.fz,r3.sat.sb⟩,?_⟩
     have:(aY (dm (aC s) (osA++[.iF s.nx cc g])) (.sl s.nx cc g)).den (ρ.up s.nx (.v v' (ms++ns)))=⟨(s.den ρ).L,osA.map (SO.den ρ)++[.iF v' cc (ig ρ g) (ms++ns)],.sl v' cc (ig ρ g) (ms++ns)::(s.den ρ).dQ,(s.den ρ).gs⟩:=by
      refine St.ext' (by have:=congrArg St.L eD;exact this) ?_ ?_ (by have:=congrArg St.gs eD;exact this)
      ·show (osA++[SO.iF s.nx cc g]).map (SO.den _)=_;rw[zat,eO,zbj];simp only[SO.den];rw[hv',hn',ba r2 hgl]
      ·show c6.den _ (.sl s.nx cc g)::s.ty.map (c6.den _)=_;rw[show s.ty.map (c6.den (ρ.up s.nx (.v v' (ms++ns))))=(s.den ρ).dQ from congrArg St.dQ eD];simp only[c6.den];rw[hv',hn',ba r2 hgl]
     rw[this];exact hq'
    have a1:(LE.a (.len s.nx)).ev (ρ.up s.nx (.v v' (ms++ns)))=(len.add n).ev (ρ.up s.nx (.v v' (ms++ns))):=by
     rw[LE.bG r2 f2,LE.ib,hl,k3,LE.aQ];show (((ρ.up s.nx (.v v' (ms++ns)) s.nx).ns.length:Nat):Int)=_;rw[hn',zak];omega
    have a2:(LE.a (.wt s.nx)).ev (ρ.up s.nx (.v v' (ms++ns)))=(wt.add w).ev (ρ.up s.nx (.v v' (ms++ns))):=by
     rw[LE.bG r2 f3,LE.ib,hw,k4,LE.aQ];show (((ρ.up s.nx (.v v' (ms++ns)) s.nx).ns.sum+(ρ.up s.nx (.v v' (ms++ns)) s.nx).ns.length:Nat):Int)=_;rw[hn',zak,zdv];omega
    have:=((hbase.jR a1).jR a2).put (v:=sc (.ref s.nx)) d;rw[show (sc (.ref s.nx)).den (ρ.up s.nx (.v v' (ms++ns)))=v' from hv']at this;exact this
theorem Em {cl:Call}{ts tx e:TypeId}{ys yx:Operand}{cc g:Nat}{len:LE}{v u:SV}{ms:List Nat}{K:SS->R}(hg:(af ops i).guard=none)(hd:(af ops i).dst=some d)(hlt:d<c.nt)(ho:(af ops i).op=.call cl)(hc:cl.callee=.builtin .append)(ht:cl.argTypes.toList=[ts,tx])(hx:cl.args.toList=[ys,yx])
  (hP:cf.P=c.P) (hΦ:cf.Φ=c.Φ) (rA:CZ c.P ts tx=some e) (h:(Gk cf e d cc g len u s K).Ok) (hk:Ok c T G Γ ρ s) (hv:bH c.nt T ys (v.den ρ)) (hu:bH c.nt T yx (u.den ρ)) (hun:c.Φ.gv cc=true) (htv:fF c.P c.Φ G Γ (.sl (v.den ρ) cc (ig ρ g) ms)) (hl:len.ev ρ=(ms.length:Int)):Hv c T G Γ ops i s ρ K:=by
 unfold Gk at h;rw[hP,hΦ]at h;cases hb:(Nat.beq (c.Φ.ty cc) e&&(pr s g&&!c.Φ.raw cc))with
 |false=>rw[hb]at h;cases h
 |true =>
  rw[hb]at h;rw[za,za,zaj]at hb;obtain⟨hb,hgi,hrw⟩:=hb;have hb:=ai hb;subst hb;simp only[cond_true]at h;cases hsr:Bc cf s cc g len u with
  |none=>rw[hsr]at h;cases h
  |some p =>
   obtain⟨n,w⟩:=p;rw[hsr]at h;simp only at h;cases hf:(bo s ((LE.k (CY c.P (c.Φ.ty cc))).sub (len.add n))&&((len.add n).lt s.nx&&bJ s.nx g))with
   |false=>rw[hf]at h;cases h
   |true =>
    rw[hf]at h;simp only[cond_true]at h;simp only[za]at hf;obtain⟨f1,f2,f3⟩:=hf;obtain⟨h1,⟨e',h2⟩,zz,h3,h4⟩:=yE rA;have h5:=h4;simp only[za]at h5;have hsz:=av h5.2.2;have hJ:ms.length=(len.ev ρ).toNat:=by rw[hl];rfl
    obtain⟨ns,E,k1,k2,k3,k4,k5,k6,k7⟩:=yC hP hΦ hsr hk hJ hsz;have hcap:=ax f1 hk.sat;rw[LE.aw,LE.bz,LE.ib,hl,k3]at hcap;obtain⟨c1,c2⟩:=yD (P:=c.P) (e:=c.Φ.ty cc) (n:=ms.length+ns.length) (by omega) (aK h5.1);obtain⟨E1,x1,x2,x3⟩:=hk.q.Gk (n:=ns.length) (E2:=E) (v:=v.den ρ) (cc:=cc) htv hun hrw (gJ hgi hk) k5 k2 (fun j hj=>(k6 j _ (zap hj)).more (k7 hun _ (zdb hj))) c2;refine gm.yw hg hd hlt ho hc ht hx h1 h2 (fun k h=>by cases h) h3 h4 hv hu x1 x2 k1 c1 (zam c2 (by unfold jB;omega)) fun v' G' ha hnf=>?_;obtain⟨Γ',hq'⟩:=x3 G' v' ha;have href:cr v'=true:=uN (hq'.ty _ (zac ..));have hlim:(List.replicate (ms.length+ns.length) WU).length<=jB:=by rw[zai];exact c2
    obtain⟨r1,r2,r3,r4⟩:=aA h hk (.v v' (List.replicate (ms.length+ns.length) WU));have hv':(ρ.up s.nx (.v v' (List.replicate (ms.length+ns.length) WU)) s.nx).vv=v':=by rw[r4];exact U.jl href
    have hn':(ρ.up s.nx (.v v' (List.replicate (ms.length+ns.length) WU)) s.nx).ns=List.replicate (ms.length+ns.length) WU:=by rw[r4];exact U.iw hlim
    have eD:=(SS.bG (dB h) r2).1;refine⟨rfl,rfl,Γ',_,_,r1,r2,zan _,?_⟩
    have hbase:Ok c T G' Γ' (ρ.up s.nx (.v v' (List.replicate (ms.length+ns.length) WU))) (aY (aC s) (.sl s.nx cc g)):=by
     refine⟨⟨r3.sat.fs,r3.sat.bs,r3.sat.pw,r3.sat.ats,r3.sat.cU,r3.sat.ne,r3.sat.fz,r3.sat.sb⟩,?_⟩
     have:(aY (aC s) (.sl s.nx cc g)).den (ρ.up s.nx (.v v' (List.replicate (ms.length+ns.length) WU)))=⟨(s.den ρ).L,(s.den ρ).os,.sl v' cc (ig ρ g) (List.replicate (ms.length+ns.length) WU)::(s.den ρ).dQ,(s.den ρ).gs⟩:=by
      refine St.ext' (by have:=congrArg St.L eD;exact this) (by have:=congrArg St.os eD;exact this) ?_ (by have:=congrArg St.gs eD;exact this);show c6.den _ (.sl s.nx cc g)::s.ty.map (c6.den _)=_;rw[show s.ty.map (c6.den (ρ.up s.nx (.v v' (List.replicate (ms.length+ns.length) WU))))=(s.den ρ).dQ from congrArg St.dQ eD];simp only[c6.den];rw[hv',hn',ba r2 f3]
     rw[this];exact hq'
    have a1:(LE.a (.len s.nx)).ev (ρ.up s.nx (.v v' (List.replicate (ms.length+ns.length) WU)))=(len.add n).ev (ρ.up s.nx (.v v' (List.replicate (ms.length+ns.length) WU))):=by
     rw[LE.bG r2 f2,LE.ib,hl,k3,LE.aQ];show (((ρ.up s.nx (.v v' (List.replicate (ms.length+ns.length) WU)) s.nx).ns.length:Nat):Int)=_;rw[hn',zai];omega
    have:=(hbase.jR a1).put (v:=sc (.ref s.nx)) d;rw[show (sc (.ref s.nx)).den (ρ.up s.nx (.v v' (List.replicate (ms.length+ns.length) WU)))=v' from hv']at this;exact this
theorem C3 {cl:Call}{ts tx:TypeId}{ys yx:Operand}{v u:SV}{an:Option (Nat×Nat)}{K:SS->R}(hg:(af ops i).guard=none)(hd:(af ops i).dst=some d)(hlt:d<c.nt)(ho:(af ops i).op=.call cl)(hc:cl.callee=.builtin .append)(ht:cl.argTypes.toList=[ts,tx])(hx:cl.args.toList=[ys,yx])
  (hP:cf.P=c.P) (hΦ:cf.Φ=c.Φ) (h:(rA cf ts tx d v u an s K).Ok) (hk:Ok c T G Γ ρ s) (hv:bH c.nt T ys (v.den ρ)) (hu:bH c.nt T yx (u.den ρ)):Hv c T G Γ ops i s ρ K:=by
 unfold rA at h;rw[hP]at h;split at h
 ·rename_i e rA;split at h
  ·rename_i cc g;rw[hΦ]at h;cases hun:c.Φ.gv cc with
   |true =>
    rw[hun]at h;exact Em (v:=.v false [.ab]) (ms:=[]) hg hd hlt ho hc ht hx hP hΦ rA h hk hv hu hun ⟨zbl _,.inl ⟨rfl,rfl⟩⟩ (by rw[LE.bz];rfl)
   |false =>
    rw[hun]at h;refine El (v:=.v false [.ab]) (ms:=[]) hg hd hlt ho hc ht hx hP hΦ rA h hk hv hu ?_ (by rw[LE.bz];rfl) (by rw[LE.bz];rfl);have q:=hk.q;refine⟨q.ml,q.at_,q.uB,q.rl,q.grow,fun o ho=>?_,fun o ho b hb=>?_,?_,q.ht,q.ty,q.gs⟩
    ·rcases List.mem_append.1 ho with ho|ho
     ·exact q.own o ho
     ·rw[List.mem_singleton.1 ho];exact⟨hun,zbl _,.inl ⟨rfl,rfl⟩⟩
    ·rcases List.mem_append.1 ho with ho|ho
     ·exact q.new o ho b hb
     ·rw[List.mem_singleton.1 ho]at hb;cases hb
    ·show (cm (_++[Own.iF .ab cc (ig ρ g) []])).Nodup;rw[fg];have:cm [Own.iF .ab cc (ig ρ g) []]=[]:=rfl;rw[this,zbg];exact q.nd
  ·cases h
 ·rename_i e x rA;split at h
  ·rename_i cc g hf;rw[hΦ]at h;cases hun:c.Φ.gv cc with
   |true =>
    rw[hun]at h;exact Em (v:=.v false [.ref x]) (ms:=(ρ x).ns) hg hd hlt ho hc ht hx hP hΦ rA h hk hv hu hun (hk.ty (gE hf)) (by rw[LE.aQ];rfl)
   |false =>
    rw[hun]at h;simp only[cond_false]at h;cases hr:wS s.os x cc g with
    |none=>rw[hr]at h;cases h
    |some osA =>
     rw[hr]at h;refine El (v:=.v false [.ref x]) (ms:=(ρ x).ns) hg hd hlt ho hc ht hx hP hΦ rA h hk hv hu ?_ (by rw[LE.aQ];rfl) (by rw[LE.aQ];rfl);refine hk.q.iq (fun _ _ h=>h) ⟨[],?_⟩ (fun f h=>h) (fun p h=>h);have:=(Be hr).map (SO.den ρ);rw[zat,zbj]at this;rw[zbg];exact this
  ·cases h
 ·cases h
end
end Go.Rd
namespace Go.Rd
open Go.aI Go.RowKit Go.Rt
inductive I9 where|ul (c g:Nat)|bl (m:Nat) (el:TypeId)
def BH:List SO->Nat->Option I9
 | [],_=>none
 |.ul y c g::l,x=>bif Nat.beq y x then some (.ul c g)else BH l x
 |.bl y m el::l,x=>bif Nat.beq y x then some (.bl m el)else BH l x
 |_::l,x=>BH l x
def I9.so (x:Nat):I9->SO|.ul c g=>.ul x c g|.bl m el=>.bl x m el
theorem fH:∀{l:List SO}{x:Nat}{w:I9},BH l x=some w->w.so x∈l
 | [],_,_,h=>by cases h
 |.ul y c g::l,x,w,h=>by
  have h:(bif Nat.beq y x then some (.ul c g)else BH l x)=some w:=h;cases hb:Nat.beq y x with
  |true=>rw[hb]at h;cases h;have:=ai hb;subst this;exact zac ..
  |false=>rw[hb]at h;exact zaa _ (fH h)
 |.bl y m el::l,x,w,h=>by
  have h:(bif Nat.beq y x then some (.bl m el)else BH l x)=some w:=h;cases hb:Nat.beq y x with
  |true=>rw[hb]at h;cases h;have:=ai hb;subst this;exact zac ..
  |false=>rw[hb]at h;exact zaa _ (fH h)
 |.loc _ _ _::l,_,_,h=>zaa _ (fH (l:=l) h)
 |.iF _ _ _::l,_,_,h=>zaa _ (fH (l:=l) h)
 |.ms _ _ _ _ _ _::l,_,_,h=>zaa _ (fH (l:=l) h)
 |.em _ _::l,_,_,h=>zaa _ (fH (l:=l) h)
 |.am _ _ _::l,_,_,h=>zaa _ (fH (l:=l) h)
 |.im _ _::l,_,_,h=>zaa _ (fH (l:=l) h)
 |.km _ _ _ _::l,_,_,h=>zaa _ (fH (l:=l) h)
 |.rm _ _ _ _::l,_,_,h=>zaa _ (fH (l:=l) h)
 |.kq _ _ _ _ _::l,_,_,h=>zaa _ (fH (l:=l) h)
 |.it _ _ _ _ _ _::l,_,_,h=>zaa _ (fH (l:=l) h)
inductive TD where|am (g k:Nat)|im (e:LE)|em (pk:KK)|km (c g:Nat) (n:LE)|kq (c g:Nat) (n:LE) (q:Option (SV×Option (Bool×List SC)))
def yF:List SO->Nat->Option TD
 | [],_=>none
 |.am y g k::l,x=>bif Nat.beq y x then some (.am g k)else yF l x
 |.im y e::l,x=>bif Nat.beq y x then some (.im e)else yF l x
 |.em y pk::l,x=>bif Nat.beq y x then some (.em pk)else yF l x
 |.km y c g n::l,x=>bif Nat.beq y x then some (.km c g n)else yF l x
 |.kq y c g n q::l,x=>bif Nat.beq y x then some (.kq c g n q)else yF l x
 |_::l,x=>yF l x
def TD.so (x:Nat):TD->SO|.am g k=>.am x g k|.im e=>.im x e|.em pk=>.em x pk|.km c g n=>.km x c g n|.kq c g n q=>.kq x c g n q
theorem gh:∀{l:List SO}{x:Nat}{w:TD},yF l x=some w->w.so x∈l
 | [],_,_,h=>by cases h
 |.am y g k::l,x,w,h=>by
  have h:(bif Nat.beq y x then some (.am g k)else yF l x)=some w:=h;cases hb:Nat.beq y x with
  |true=>rw[hb]at h;cases h;have:=ai hb;subst this;exact zac ..
  |false=>rw[hb]at h;exact zaa _ (gh h)
 |.im y e::l,x,w,h=>by
  have h:(bif Nat.beq y x then some (.im e)else yF l x)=some w:=h;cases hb:Nat.beq y x with
  |true=>rw[hb]at h;cases h;have:=ai hb;subst this;exact zac ..
  |false=>rw[hb]at h;exact zaa _ (gh h)
 |.em y pk::l,x,w,h=>by
  have h:(bif Nat.beq y x then some (.em pk)else yF l x)=some w:=h;cases hb:Nat.beq y x with
  |true=>rw[hb]at h;cases h;have:=ai hb;subst this;exact zac ..
  |false=>rw[hb]at h;exact zaa _ (gh h)
 |.km y c g n::l,x,w,h=>by
  have h:(bif Nat.beq y x then some (.km c g n)else yF l x)=some w:=h;cases hb:Nat.beq y x with
  |true=>rw[hb]at h;cases h;have:=ai hb;subst this;exact zac ..
  |false=>rw[hb]at h;exact zaa _ (gh h)
 |.kq y c g n q::l,x,w,h=>by
  have h:(bif Nat.beq y x then some (.kq c g n q)else yF l x)=some w:=h;cases hb:Nat.beq y x with
  |true=>rw[hb]at h;cases h;have:=ai hb;subst this;exact zac ..
  |false=>rw[hb]at h;exact zaa _ (gh h)
 |.rm _ _ _ _::l,_,_,h=>zaa _ (gh (l:=l) h)
 |.it _ _ _ _ _ _::l,_,_,h=>zaa _ (gh (l:=l) h)
 |.loc _ _ _::l,_,_,h=>zaa _ (gh (l:=l) h)
 |.iF _ _ _::l,_,_,h=>zaa _ (gh (l:=l) h)
 |.ms _ _ _ _ _ _::l,_,_,h=>zaa _ (gh (l:=l) h)
 |.ul _ _ _::l,_,_,h=>zaa _ (gh (l:=l) h)
 |.bl _ _ _::l,_,_,h=>zaa _ (gh (l:=l) h)
def I9.ln (x:Nat):I9->Nat|.ul _ _=>x|.bl m _=>m
def yZ (s:SS)(w:I9)(y:Nat)(e:LE):Bool:=bo s e&&bo s (((LE.a (.len (w.ln y))).sub e).bk (-1))
def I9.el (Φ:Forms):I9->TypeId|.ul c _=>Φ.ty c|.bl _ el=>el
def UA (cf:Cf)(t:TypeId)(v:SV)(f:Nat)(s:SS)(K:SV->SS->R):R:=match v with
 |.v false [.oB y e sz o]=>(match BH s.os y,fq cf.P t f with
  |some w,some (off,ft)=>bif !Nat.beq (ae cf.P ft) 0&&yZ s w y e then K (sc (.oB y e sz (o+off))) s else .bad 140 s
  |_,_=>Ri cf t v f s K)
 |_=>Ri cf t v f s K
def UB (cf:Cf)(t:TypeId)(x:SV)(e:SV)(s:SS)(K:SV->SS->R):R:=match x,e with
 |.v false [.ref y],.v false [.int kd e']=>(match BH s.os y,cf.P.underlying t with
  |some w,some (.slice el)=>bif Nat.beq el (w.el cf.Φ)&&((cf.P.info? el).isSome&&yZ s w y e')then K (sc (.oB y e' (ae cf.P el) 0)) s else .bad 141 s
  |_,_=>Rm cf t x e s K)
 |_,_=>Rm cf t x e s K
def Vr (y m:Nat)(e:LE)(s:SS)(K:SV->SS->R):R:=bif Nat.blt m s.nx&&e.lt s.nx then
 (K (sc (.bool (.k true))) s).and (fresh s fun p s=>K (sc (.bool (.k false))) (aP (qF (qF s (m,e,.a (.n p))) (m,e.bk 1,(LE.a (.n p)).bk 2)) (((LE.a (.wt m)).sub (.a (.n p))).bk (-2))))
 else .bad 142 s
def old (cf:Cf)(t:TypeId)(x:SV)(s:SS)(K:SV->SS->R):R:=match x with
 |.v false [.oB y e sz o]=>(match BH s.os y with
  |some (.ul cc g)=>bif yZ s (.ul cc g) y e&&(Nat.beq sz (ae cf.P (cf.Φ.ty cc)))then
   (bif dZ cf.P t then yr cf cc g e o (ae cf.P t) true (.k WU) s K else bif cD cf.P t then yr cf cc g e o 1 false (.k WU) s K else .bad 143 s)else .bad 144 s
  |some (.bl m el)=>bif yZ s (.bl m el) y e&&(Nat.beq sz 1&&(Nat.beq o 0&&(!dZ cf.P t&&cD cf.P t)))then Vr y m e s K else .bad 145 s
  |none=>Ro cf t x s K)
 |_=>Ro cf t x s K
def Rv (cf:Cf)(t:TypeId)(m k:SV)(ok:Bool)(s:SS)(K:SV->SS->R):R:=match m with
 |.v false [.cV b]=>(match cf.P.underlying t,yF s.os b with
  |some (.map kt et),some w=>(match (zeroOf cf.P et).bind sW with
   |some (.v ag cs)=>(match w with
    |.am g q=>bif gT cf kt .str&&gq .str k then TA cf g q k ok (ag,cs) s K else .bad 146 s
    |.im e=>bif gT cf kt .str&&(gq .str k&&e.lt s.nx)then (K (ke ok (ag,cs)) s).and (fresh s fun n s=>K (yu ok (false,[.int .i64 (.a (.n n))])) (aP s ((e.sub (.a (.n n))).bk (-1))))else .bad 146 s
    |.em pk=>bif gT cf kt pk&&gq pk k then K (ke ok (ag,cs)) s else .bad 146 s
    |.km cc g _=>bif gT cf kt (cf.Φ.pk cc)&&gq (cf.Φ.pk cc) k then Rq cf g (cf.Φ.mv cc) k ok (ag,cs) s K else .bad 146 s
    |.kq cc g _ _=>bif gT cf kt (cf.Φ.pk cc)&&gq (cf.Φ.pk cc) k then Rq cf g (cf.Φ.mv cc) k ok (ag,cs) s K else .bad 146 s)
   |_=>.bad 147 s)
  |_,_=>.bad 148 s)
 |_=>TB cf t m k ok s K
def Ns (cf:Cf)(t:TypeId)(x:SV)(s:SS)(K:SV->SS->R):R:=match x with
 |.v false [.ref y]=>(match BH s.os y,cf.P.underlying t with
  |some w,some (.slice _)=>K (sc (.int .i64 (.a (.len (w.ln y))))) s
  |_,_=>Rp cf t x s K)
 |.v false [.wE b n]=>(match cf.P.underlying t with
  |some (.slice _)=>K (sc (.int .i64 (.k n))) s
  |_=>.bad 149 s)
 |_=>Rp cf t x s K
def Pu (cf:Cf)(o:Op)(s:SS)(K:SV->SS->R):R:=match o with
 |.fieldAddr t (.tmp x) f=>wv s (.tmp x) fun v=>UA cf t v f s K
 |.load t (.tmp x)=>wv s (.tmp x) fun v=>old cf t v s K
 |.indexAddr t (.tmp x) y=>wv s (.tmp x) fun v=>wv s y fun u=>UB cf t v u s K
 |.lookup t x y ok=>wv s x fun v=>wv s y fun u=>Rv cf t v u ok s K
 |.nilCheck (.tmp x)=>wv s (.tmp x) fun v=>(match v with
  |.v false [.oB y e sz o]=>(match BH s.os y with
   |some w=>bif yZ s w y e then K v s else .bad 150 s
   |none=>Rj v s K)
  |_=>Rj v s K)
 |.call cl=>(match cl.callee,cl.args.toList,cl.argTypes.toList with
  |.builtin .len,[x],t::_=>wv s x fun v=>Ns cf t v s K
  |_,_,_=>.bad 12 s)
 |o=>Uu cf o s K
section
variable {c:Cx}{T:Tm}{G:GH}{Γ:dy}{ρ ρ':aZ}{s s':SS}{cf:Cf}{ops:Array Oper}{i d:Nat}
theorem uR {w:I9}{y:Nat}{e:LE}(hw:BH s.os y=some w)(h:yZ s w y e=true)(hk:Ok c T G Γ ρ s):∃b cp size C,(ρ y).vv=.cN b 0 (ρ (w.ln y)).ns.length cp/\0<=e.ev ρ/\(e.ev ρ).toNat<(ρ (w.ln y)).ns.length/\Γ.m b=none/\G b=some (.cells .data (w.el c.Φ) size C) /\
  (match w with|.ul cc g=>C.length=(ρ y).ns.length*ae c.P (c.Φ.ty cc)/\eT c.P c.Φ G Γ WU cc (ig ρ g) (e.ev ρ).toNat ((C.drop ((e.ev ρ).toNat*ae c.P (c.Φ.ty cc))).take (ae c.P (c.Φ.ty cc)))|.bl m el=>C=(ρ m).ns.map (fun m=>AV.bool (Nat.beq m 0))/\∀q∈(ρ m).ns,q<=1):=by
 unfold yZ at h;rw[za]at h;have e1:=ax h.1 hk.sat;have e2:=ax h.2 hk.sat;rw[LE.aO,LE.aw,LE.aQ]at e2;have e2:0<=((ρ (w.ln y)).ns.length:Int)-e.ev ρ+-1:=e2;have ho:=hk.own (fH hw);cases w with
 |ul cc g =>
  obtain⟨_,_,h3⟩:_/\_/\_:=ho;rcases h3 with ⟨_,h0⟩|⟨b,cp,size,C,q1,q2,q3,q4,q5,q6,q7⟩
  ·have h0:(ρ y).ns.length=0:=h0;have e2:0<=((ρ y).ns.length:Int)-e.ev ρ+-1:=e2;omega
  ·have e2:0<=((ρ y).ns.length:Int)-e.ev ρ+-1:=e2;exact⟨b,cp,size,C,q1,e1,by show (e.ev ρ).toNat<(ρ y).ns.length;omega,q2,q3,q4,q7 _ (by show (e.ev ρ).toNat<(ρ y).ns.length;omega)⟩
 |bl m el =>
  obtain⟨_,hm,b,size,q1,q2,q3⟩:=ho;have e2:0<=((ρ m).ns.length:Int)-e.ev ρ+-1:=e2;exact⟨b,_,size,_,q1,e1,by show (e.ev ρ).toNat<(ρ m).ns.length;omega,q2,q3,rfl,hm⟩
theorem kr {y sz o b cp l:Nat}{e:LE}(h:(ρ y).vv=.cN b 0 l cp):(SV.v false [.oB y e sz o]).den ρ=.cu b ((e.ev ρ).toNat*sz+o):=by
 show pf (ρ y).vv _=_;rw[mf h,zaq]
theorem Pv {t:TypeId}{x f:Nat}{v:SV}{K:SV->SS->R}(ho:(af ops i).op=.fieldAddr t (.tmp x) f)(hg:(af ops i).guard=none)(hP:cf.P=c.P)(h:(UA cf t v f s K).Ok)(hk:Ok c T G Γ ρ s)(hx:T.at x=v.den ρ):Lo c T G Γ ops i s ρ K:=by
 unfold UA at h;split at h
 ·rename_i y e sz o;split at h
  ·rename_i w off ft hw hf;rw[hP]at h hf;cases hb:(!Nat.beq (ae c.P ft) 0&&yZ s w y e)with
   |false=>rw[hb]at h;cases h
   |true =>
    rw[hb]at h;rw[za,zaj]at hb;obtain⟨b,cp,size,C,q1,_⟩:=uR hw hb.2 hk;refine Lo.here hk h ?_;have e1:(sc (.oB y e sz (o+off))).den ρ=.cu b ((e.ev ρ).toNat*sz+(o+off)):=kr q1;rw[e1,<-zbq];exact bq.field hg ho (hx.trans (kr q1)) hf hb.1
  ·exact CN ho hg hP h hk hx
 ·exact CN ho hg hP h hk hx
theorem Pw {t:TypeId}{x:Nat}{y:Operand}{v u:SV}{K:SV->SS->R}(ho:(af ops i).op=.indexAddr t (.tmp x) y)(hg:(af ops i).guard=none)(hP:cf.P=c.P)(hΦ:cf.Φ=c.Φ)(h:(UB cf t v u s K).Ok)(hk:Ok c T G Γ ρ s)(hx:T.at x=v.den ρ)(hy:bH c.nt T y (u.den ρ)):Lo c T G Γ ops i s ρ K:=by
 unfold UB at h;split at h
 ·rename_i q kd e';split at h
  ·rename_i w el hw hu;rw[hP,hΦ]at h;rw[hP]at hu;cases hb:(Nat.beq el (w.el c.Φ)&&((c.P.info? el).isSome&&yZ s w q e'))with
   |false=>rw[hb]at h;cases h
   |true =>
    rw[hb]at h;simp only[za]at hb;obtain⟨b,cp,size,C,q1,q2,q3,_⟩:=uR hw hb.2.2 hk;refine Lo.here hk h ?_;have e1:(sc (.oB q e' (ae c.P el) 0)).den ρ=.cu b ((e'.ev ρ).toNat*ae c.P el+0):=kr q1;rw[e1,zbu,<-zaq ((e'.ev ρ).toNat*ae c.P el)];refine bq.CP hg ho (hx.trans q1) ?_ hu hb.2.1 rfl q3 (kd:=kd);have:(SV.v false [.int kd e']).den ρ=.int kd (.ofNat (e'.ev ρ).toNat):=by show AV.int kd (e'.ev ρ)=_;congr 1;exact (zbp q2).symm
    rw[<-this];exact hy
  ·exact CQ ho hg hP hΦ h hk hx hy
 ·exact CQ ho hg hP hΦ h hk hx hy
theorem Px {t:TypeId}{x:Nat}{v:SV}{K:SV->SS->R}(ho:(af ops i).op=.load t (.tmp x))(hg:(af ops i).guard=none)(hP:cf.P=c.P)(hΦ:cf.Φ=c.Φ)(h:(old cf t v s K).Ok)(hk:Ok c T G Γ ρ s)(hx:T.at x=v.den ρ):Lo c T G Γ ops i s ρ K:=by
 unfold old at h;split at h
 ·rename_i y e sz o;split at h
  ·rename_i cc g hw;rw[hP,hΦ]at h;cases hb:(yZ s (.ul cc g) y e&&(Nat.beq sz (ae c.P (c.Φ.ty cc))))with
   |false=>rw[hb]at h;cases h
   |true =>
    rw[hb]at h;simp only[cond_true]at h;rw[za]at hb;obtain⟨b,cp,size,C,q1,q2,q3,q4,q5,q6,q7⟩:=uR hw hb.1 hk;have q3:(e.ev ρ).toNat<(ρ y).ns.length:=q3;have hsz:=ai hb.2;subst hsz;have hx':T.at x=.cu b ((e.ev ρ).toNat*ae c.P (c.Φ.ty cc)+o):=hx.trans (kr q1);have h1:((e.ev ρ).toNat+1)*ae c.P (c.Φ.ty cc)<=(ρ y).ns.length*ae c.P (c.Φ.ty cc):=zae _ q3;rw[zax]at h1
    have hlen:(c.Φ.ks cc).length=ae c.P (c.Φ.ty cc):=by
     obtain⟨fs,w1,_⟩:=q7;rw[<-w1.len,zaf,zas];omega
    have fin:∀{n:Nat} {ag:Bool},(yr cf cc g e o n ag (.k WU) s K).Ok->(ag=true/\dZ c.P t=true/\n=ae c.P t)∨(ag=false/\dZ c.P t=false/\cD c.P t=true/\n=1)->Lo c T G Γ ops i s ρ K:=fun {n ag} h hcs=>by
     have hle:o+n<=(c.Φ.ks cc).length:=by
      have hp:=h;unfold yr at hp;rw[hΦ]at hp;cases hc:Nat.ble (o+n) (c.Φ.ks cc).length with
      |false=>rw[hc]at hp;cases hp
      |true=>exact aK hc
     refine (CS hΦ h hk ⟨q2,rfl⟩ q7 (by rw[LE.bz];exact zch _)).mono fun ρ2 s2 a2 n2 o2 hh=>?_;obtain⟨xs,g1,g2⟩:=hh
     have e1:(((C.drop ((e.ev ρ).toNat*ae c.P (c.Φ.ty cc))).take (ae c.P (c.Φ.ty cc))).drop o).take n=(C.drop ((e.ev ρ).toNat*ae c.P (c.Φ.ty cc)+o)).take n:=by
      rw[ze,zep,zcq,zcl (by omega)]
     rw[e1]at g2;rcases hcs with ⟨rfl,h1,rfl⟩|⟨rfl,h1,h2,h3⟩
     ·exact⟨_,g1,by
        show bq _ _ _ _ _ _ _ _ _ (.agg (aB ρ2 xs));rw[g2]
        exact bq.DQ hg ho hx' h1 rfl q5 (by omega) rfl⟩
     ·obtain⟨u,rfl,hu⟩:=IK g2 h3 (by omega);exact⟨_,g1,bq.AJ hg ho hx' h2 h1 q5 hu⟩
    cases ha:dZ c.P t with
    |true=>rw[ha]at h;exact fin h (.inl ⟨rfl,ha,rfl⟩)
    |false =>
     rw[ha]at h;cases hkn:cD c.P t with
     |false=>rw[hkn]at h;cases h
     |true=>rw[hkn]at h;exact fin h (.inr ⟨rfl,ha,hkn,rfl⟩)
  ·rename_i m el hw;rw[hP]at h;cases hb:(yZ s (.bl m el) y e&&(Nat.beq sz 1&&(Nat.beq o 0&&(!dZ c.P t&&cD c.P t))))with
   |false=>rw[hb]at h;cases h
   |true =>
    rw[hb]at h;simp only[cond_true]at h;simp only[za,zaj]at hb;obtain⟨b1,b2,b3,b4,b5⟩:=hb;obtain⟨b,cp,size,C,q1,q2,q3,q4,q5,q6,q7⟩:=uR hw b1 hk;have q3:(e.ev ρ).toNat<(ρ m).ns.length:=q3;have b2:=ai b2;have b3:=ai b3;subst b2 b3;have hx':T.at x=.cu b (e.ev ρ).toNat:=(hx.trans (kr q1)).trans (by rw[zeq,zbu]);have hm:(ρ m).ns[(e.ev ρ).toNat]?=some (ρ m).ns[(e.ev ρ).toNat]:=zap q3;have hC:C[(e.ev ρ).toNat]?=some (.bool (Nat.beq (ρ m).ns[(e.ev ρ).toNat] 0)):=by rw[q6,zcs,hm];rfl
    have hl:bq c.P ops c.n0 c.nt i T c.hp c.nx G (.bool (Nat.beq (ρ m).ns[(e.ev ρ).toNat] 0)):=bq.AJ hg ho hx' b5 b4 q5 hC;unfold Vr at h;cases hb2:(Nat.blt m s.nx&&e.lt s.nx)with
    |false=>rw[hb2]at h;cases h
    |true =>
     rw[hb2]at h;rw[za]at hb2;obtain⟨h1,h2⟩:=R.gp h;cases hz:Nat.beq (ρ m).ns[(e.ev ρ).toNat] 0 with
     |true=>rw[hz]at hl;exact Lo.here hk h1 hl
     |false =>
      rw[hz]at hl
      have hone:(ρ m).ns[(e.ev ρ).toNat]=1:=by
       have:=q7 _ (zdb q3);have:(ρ m).ns[(e.ev ρ).toNat]≠0:=fun h0=>by rw[h0]at hz;cases hz
       omega
      obtain⟨k1,k2,k3,k4⟩:=aA h2 hk (.n (((ρ m).ns.take (e.ev ρ).toNat).sum+(e.ev ρ).toNat));have xC:=k2 m (av hb2.1);have hp:(LE.a (.n s.nx)).ev (ρ.up s.nx (.n (((ρ m).ns.take (e.ev ρ).toNat).sum+(e.ev ρ).toNat)))=((((ρ m).ns.take (e.ev ρ).toNat).sum+(e.ev ρ).toNat:Nat):Int):=by rw[LE.aQ];show ((ρ.up s.nx (.n _) s.nx).nn:Int)=_;rw[k4];rfl
      have hsum:((ρ m).ns.take ((e.ev ρ).toNat+1)).sum=((ρ m).ns.take (e.ev ρ).toNat).sum+1:=by
       rw[List.take_add_one,hm,zdv,hone];simp
      have htot:((ρ m).ns.take ((e.ev ρ).toNat+1)).sum<=(ρ m).ns.sum:=by
       have:=zdg ((e.ev ρ).toNat+1) (ρ m).ns;have h2:=congrArg List.sum this;rw[zdv]at h2;omega
      refine fI.mk k2 (zan _) (((k3.qF (p:=(m,e,.a (.n s.nx))) ?_).qF (p:=(m,e.bk 1,(LE.a (.n s.nx)).bk 2)) ?_).aP ?_) ⟨_,k1,hl⟩
      ·show 0<=e.ev _/\((((ρ.up s.nx (.n _) m).ns.take (e.ev _).toNat).sum:Nat):Int)+e.ev _=(LE.a (.n s.nx)).ev _;rw[hp,LE.bG k2 hb2.2,xC];exact⟨q2,by omega⟩
      ·show 0<=(e.bk 1).ev _/\((((ρ.up s.nx (.n _) m).ns.take ((e.bk 1).ev _).toNat).sum:Nat):Int)+(e.bk 1).ev _=((LE.a (.n s.nx)).bk 2).ev _;rw[LE.aO,LE.aO,hp,LE.bG k2 hb2.2,xC,show (e.ev ρ+1).toNat=(e.ev ρ).toNat+1 by omega,hsum];exact⟨by omega,by omega⟩
      ·rw[LE.aO,LE.aw,hp,LE.aQ];show 0<=(((ρ.up s.nx (.n _) m).ns.sum+(ρ.up s.nx (.n _) m).ns.length:Nat):Int)-_+-2;rw[xC];omega
  ·exact CT ho hg hP hΦ h hk hx
 ·exact CT ho hg hP hΦ h hk hx
theorem C4 {t:TypeId}{x y:Operand}{v u:SV}{ok:Bool}{K:SV->SS->R}(ho:(af ops i).op=.lookup t x y ok)(hg:(af ops i).guard=none)(hP:cf.P=c.P)(hΦ:cf.Φ=c.Φ)(hK:eX cf)(h:(Rv cf t v u ok s K).Ok)(hk:Ok c T G Γ ρ s)(hx:bH c.nt T x (v.den ρ))(hy:bH c.nt T y (u.den ρ)):Lo c T G Γ ops i s ρ K:=by
 unfold Rv at h;split at h
 ·rename_i b;have hx:bH c.nt T x (.cV (ρ b).nn):=hx;split at h
  ·rename_i kt et w hu hw;rw[hP]at h hu;split at h
   ·rename_i ag cs hz;cases hzz:zeroOf c.P et with
    |none=>rw[hzz]at hz;cases hz
    |some zz =>
     rw[hzz]at hz;have hz:sW zz=some (.v ag cs):=hz;have hz1:∀ρ,dS ρ (ag,cs)=zz:=fun ρ=>jc hz ρ;have hown:=hk.own (gh hw);split at h
     ·rename_i g q;cases hb:(gT cf kt .str&&gq .str u)with
      |false=>rw[hb]at h;cases h
      |true =>
       rw[hb]at h;rw[za]at hb;have hMt:=ij hb.1 hK;rw[hP]at hMt;obtain⟨_,_,hbd,es,r1,r2,r3⟩:=hown;exact IP (cf:=cf) h hk hz1 hb.2 r3 hbd (bq.lookup hg ho hu hzz hMt hx hy (fY hb.2 ρ) r1 fun p hp=>(r2.2 p hp).1)
     ·rename_i e;cases hb:(gT cf kt .str&&(gq .str u&&e.lt s.nx))with
      |false=>rw[hb]at h;cases h
      |true =>
       rw[hb]at h;simp only[za]at hb;have hMt:=ij hb.1 hK;rw[hP]at hMt;obtain⟨_,es,r1,r2⟩:=hown;have hl:=bq.lookup (n0:=c.n0) (nt:=c.nt) (T:=T) (hp:=c.hp) (nx:=c.nx) hg ho hu hzz hMt hx hy (fY hb.2.1 ρ) r1 fun p hp=>(r2 p hp).1;obtain⟨h1,h2⟩:=R.gp h;cases hf:bD (u.den ρ) es with
       |none=>rw[hf]at hl;exact Lo.here hk h1 (by rw[jO,hz1];exact hl)
       |some v =>
        rw[hf]at hl;obtain⟨p,m1,rfl⟩:=jA hf;obtain⟨_,n,e1,e2⟩:=r2 p m1;obtain⟨k1,k2,k3,k4⟩:=aA h2 hk (.n n);have hev:(LE.a (.n s.nx)).ev (ρ.up s.nx (.n n))=n:=by rw[LE.aQ];show ((ρ.up s.nx (.n n) s.nx).nn:Int)=n;rw[k4];rfl
        refine fI.mk k2 (zan _) (k3.aP ?_) ⟨_,k1,?_⟩
        ·rw[LE.aO,LE.aw,hev,LE.bG k2 hb.2.2];omega
        ·rw[kj];have e3:dS (ρ.up s.nx (.n n)) (false,[SC.int .i64 (.a (.n s.nx))])=.int .i64 (.ofNat n):=by show AV.int .i64 ((LE.a (.n s.nx)).ev _)=_;rw[hev];rfl
         rw[e3];rw[e1]at hl;exact hl
     ·rename_i pk;cases hb:(gT cf kt pk&&gq pk u)with
      |false=>rw[hb]at h;cases h
      |true =>
       rw[hb]at h;rw[za]at hb;have hMt:=ij hb.1 hK;rw[hP]at hMt;have r1:G (ρ b).nn=some (.map []):=hown.1;have hl:=bq.lookup (n0:=c.n0) (nt:=c.nt) (T:=T) (hp:=c.hp) (nx:=c.nx) hg ho hu hzz hMt hx hy (fY hb.2 ρ) r1 fun p hp=>by cases hp
       exact Lo.here hk h (by rw[jO,hz1];exact hl)
     ·rename_i cc g n;rw[hΦ]at h;cases hb:(gT cf kt (c.Φ.pk cc)&&gq (c.Φ.pk cc) u)with
      |false=>rw[hb]at h;cases h
      |true =>
       rw[hb]at h;rw[za]at hb;have hMt:=ij hb.1 hK;rw[hP]at hMt;obtain⟨o1,o2,o3,es,o4,o5,o6,o7⟩:=hown;exact CW hΦ h hk hz1 hb.2 o7 (bq.lookup hg ho hu hzz hMt hx hy (fY hb.2 ρ) o4 o7.1)
     ·rename_i cc g n q;rw[hΦ]at h;cases hb:(gT cf kt (c.Φ.pk cc)&&gq (c.Φ.pk cc) u)with
      |false=>rw[hb]at h;cases h
      |true =>
       rw[hb]at h;rw[za]at hb;have hMt:=ij hb.1 hK;rw[hP]at hMt;obtain⟨o1,o2,o3,es,o4,o5,o6,o7,_⟩:=hown;exact CW hΦ h hk hz1 hb.2 o7 (bq.lookup hg ho hu hzz hMt hx hy (fY hb.2 ρ) o4 o7.1)
   ·cases h
  ·cases h
 ·exact IQ ho hg hP hΦ hK h hk hx hy
theorem Py {cl:Call}{t:TypeId}{ats:List TypeId}{x:Operand}{v:SV}{K:SV->SS->R}(ho:(af ops i).op=.call cl)(hc:cl.callee=.builtin .len)(hats:cl.argTypes.toList=t::ats)(hxa:cl.args.toList=[x])(hg:(af ops i).guard=none)(hP:cf.P=c.P)(h:(Ns cf t v s K).Ok)(hk:Ok c T G Γ ρ s)(hx:bH c.nt T x (v.den ρ)):Lo c T G Γ ops i s ρ K:=by
 unfold Ns at h;split at h
 ·rename_i y;split at h
  ·rename_i w e hw hu;rw[hP]at hu;have ho':=hk.own (fH hw);refine Lo.here hk h ?_;show bq _ _ _ _ _ _ _ _ _ (.int .i64 ((LE.a (.len (w.ln y))).ev ρ));rw[LE.aQ];refine bq.La (n:=(ρ (w.ln y)).ns.length) hg ho hc hats hxa hu hx ?_;cases w with
   |ul cc g =>
    obtain⟨_,_,h3⟩:_/\_/\_:=ho';rcases h3 with ⟨h1,h0⟩|⟨b,cp,size,C,q1,_⟩
    ·exact .inl ⟨h1,h0⟩
    ·exact .inr ⟨b,0,cp,q1⟩
   |bl m el =>
    obtain⟨_,_,b,size,q1,_⟩:=ho';exact .inr ⟨b,0,_,q1⟩
  ·exact CU ho hc hats hxa hg hP h hk hx
 ·rename_i b n;split at h
  ·rename_i e hu;rw[hP]at hu;refine Lo.here hk h ?_;show bq _ _ _ _ _ _ _ _ _ (.int .i64 ((LE.k n).ev ρ));rw[LE.bz];exact bq.La (n:=n) hg ho hc hats hxa hu hx (.inr ⟨(ρ b).nn,0,n,rfl⟩)
  ·cases h
 ·exact CU ho hc hats hxa hg hP h hk hx
theorem Ls {K:SV->SS->R}(hg:(af ops i).guard=none)(hP:cf.P=c.P)(hΦ:cf.Φ=c.Φ)(hK:eX cf)(h:(Pu cf (af ops i).op s K).Ok)(hk:Ok c T G Γ ρ s):Lo c T G Γ ops i s ρ K:=by
 unfold Pu at h;split at h
 ·rename_i ho;obtain⟨v,h,e0,e⟩:=cn h hk;exact Pv ho hg hP h hk (gF e0 hk.q)
 ·rename_i ho;obtain⟨v,h,e0,e⟩:=cn h hk;exact Px ho hg hP hΦ h hk (gF e0 hk.q)
 ·rename_i ho;obtain⟨v,h,e0,e⟩:=cn h hk;obtain⟨u,h,_,e'⟩:=cn h hk;exact Pw ho hg hP hΦ h hk (gF e0 hk.q) e'
 ·rename_i ho;obtain⟨v,h,_,e⟩:=cn h hk;obtain⟨u,h,_,e'⟩:=cn h hk;exact C4 ho hg hP hΦ hK h hk e e'
 ·rename_i x ho;obtain⟨v,h,e0,e⟩:=cn h hk;split at h
  ·rename_i y e' sz o;split at h
   ·rename_i w hw;cases hi:yZ s w y e' with
    |false=>rw[hi]at h;cases h
    |true =>
     rw[hi]at h;obtain⟨b,cp,size,C,q1,_⟩:=uR hw hi hk;have e1:(SV.v false [.oB y e' sz o]).den ρ=.cu b ((e'.ev ρ).toNat*sz+o):=kr q1;exact Lo.here hk h (by rw[e1];exact bq.nil hg ho ((gF e0 hk.q).trans e1))
   ·exact CO ho hg h hk (gF e0 hk.q)
  ·exact CO ho hg h hk (gF e0 hk.q)
 ·rename_i cl ho;split at h
  ·rename_i x t ats h1 h2 h3;obtain⟨v,h,_,e⟩:=cn h hk;exact Py ho h1 h3 h2 hg hP h hk e
  ·cases h
 ·exact Pe hg hP hΦ hK h hk
end
end Go.Rd
namespace Go.Rt
open Go.aI Go.RowKit
section
variable {c:Cx}{ops:Array Oper}{i m d f:Nat}{T:Tm}{G G':GH}{Γ Γ':dy}{st st':St}{v u:AV}
theorem Q.Gq (hq:Q c T G Γ st){cc g n k:Nat}{E2:List AV}{osA:List Own}(ho:st.os.Perm (osA++[.ul v cc g n]))(hE2:E2.length=k*ae c.P (c.Φ.ty cc))(kM:CL E2)(hel:∀j,j<k->eT c.P c.Φ G Γ WU cc g (n+j) ((E2.drop (j*ae c.P (c.Φ.ty cc))).take (ae c.P (c.Φ.ty cc))))(hlim:n+k<=jB) :
  ∃E1,Ext G v (c.Φ.ty cc) (ae c.P (c.Φ.ty cc)) n E1/\lC E1/\(∀G' v',K1 c.n0 G G' v v' (c.Φ.ty cc) (ae c.P (c.Φ.ty cc)) n k E1 E2->∃Γ',Q c T G' Γ' ⟨st.L,osA++[.ul v' cc g (n+k)],st.dQ,st.gs⟩):=by
 have hown:dO c.P c.Φ G Γ (.ul v cc g n):=hq.own _ (ho.mem_iff.2 (by simp));obtain⟨hg,hlm,hown'⟩:=hown
 obtain⟨E1,t1,t2,t3,t4⟩:∃E1,Ext G v (c.Φ.ty cc) (ae c.P (c.Φ.ty cc)) n E1/\CL E1/\E1.length=n*ae c.P (c.Φ.ty cc)/\(∀j,j<n->eT c.P c.Φ G Γ WU cc g j ((E1.drop (j*ae c.P (c.Φ.ty cc))).take (ae c.P (c.Φ.ty cc)))):=by
  rcases hown' with ⟨h1,rfl⟩|⟨b,cap,size,C,h1,h2,h3,h4,h5,h6,h7⟩
  ·exact⟨[],.inl ⟨h1,rfl,rfl⟩,kN,by simp,fun j hj=>absurd hj (by omega)⟩
  ·exact⟨C,.inr ⟨b,0,cap,size,C,h1,h3,by omega,by rw[zc,<-h4,zcj],by omega,h6⟩,uP h4 fun j hj=>(h7 j hj).cl,h4,h7⟩
 refine⟨E1,t1,t2.nf,fun G' v' ha'=>?_⟩
 have fin:∀(b c' size:Nat),G'=dj G b (.cells .data (c.Φ.ty cc) size (E1++E2))->v'=.cN b 0 (n+k) c'->c'*ae c.P (c.Φ.ty cc)<=size->n+k<=c'->((Own.ul v cc g n).aS=some b∨G b=none)->Γ.m b=none->((G b).isSome=true∨c.n0<=b)->(∀el size C,G b≠some (.cells .raw el size C))->(∀el size' C,G b=some (.cells .data el size' C)->el=c.Φ.ty cc/\size'=size) ->
   ∃Γ',Q c T G' Γ' ⟨st.L,osA++[.ul v' cc g (n+k)],st.dQ,st.gs⟩:=by
  intro b c' size hG hv hcs hlc hob hΓ hgr hraw hdat;subst hG hv;refine⟨Γ,?_⟩
  have:=hq.A8 (b:=b) (G':=dj G b (.cells .data (c.Φ.ty cc) size (E1++E2))) (Γ':=Γ) (o':=.ul (.cN b 0 (n+k) c') cc g (n+k)) (tys':=[]) ho (dG hgr) (fun _ _=>rfl) (fun k h=>aV h) (by rw[au];rfl) hraw (fun el size' C' h=>⟨E1++E2,by obtain⟨r1,r2⟩:=hdat _ _ _ h;subst r1 r2;exact au _ _ _⟩)
   (fun x h=>by rw[hΓ]at h;cases h) rfl rfl hob rfl (fun x _ _ h=>by rw[hΓ]at h;cases h)
   (fun hr hl=>⟨hg,hlim,.inr ⟨b,c',size,E1++E2,rfl,hΓ,au _ _ _,by rw[zak,t3,hE2,zbh],hcs,hlc,fun j hj=>by
    by_cases hlt:j<n
    ·have h1:(j+1)*ae c.P (c.Φ.ty cc)<=n*ae c.P (c.Φ.ty cc):=zae _ hlt;rw[zax]at h1;rw[zda (by omega),zco (by rw[zas];omega)];exact (t4 j hlt).le hr hl hg
    ·have h1:j*ae c.P (c.Φ.ty cc)=n*ae c.P (c.Φ.ty cc)+(j-n)*ae c.P (c.Φ.ty cc):=by rw[<-zbh];congr 1;omega
     rw[h1,<-t3,List.drop_append];rw[zcg (by omega),zcx,zcr];have:=hel (j-n) (by omega);rw[show n+(j-n)=j by omega]at this
     exact this.le hr hl hg⟩⟩) (fun f hf=>by cases hf)
  exact this
 rcases ha' with ⟨rfl,rfl,h1,h2,rfl⟩|⟨b,o,cap,size,C,rfl,h2,h3,h4,h5,h6,h7⟩|⟨b,c',size,h1,h2,h3,h4,h5,h6⟩
 ·subst h1 h2;exact⟨Γ,hq.iq (fun _ _ h=>h) ⟨[],by simpa using ho⟩ (fun f h=>h) (fun p h=>h)⟩
 ·rcases hown' with ⟨h,_⟩|⟨b',cap2,size2,C2,k1,k2,k3,k4,k5,k6,k7⟩
  ·cases h
  ·cases k1;rw[h2]at k3;cases k3
   have hC:C=E1:=by
    rcases t1 with ⟨h,_⟩|⟨_,_,_,_,_,g1,g2,g3,g4,_⟩
    ·cases h
    ·cases g1;rw[h2]at g2;cases g2;rw[<-g4,zc,<-k4,zcj]
   subst hC;exact fin b cap size (by rw[h7,wR (by omega)]) h3 (by omega) h4 (.inl rfl) k2 (.inl (by rw[h2];rfl)) (fun _ _ _ h=>by rw[h2]at h;cases h) fun el size' C' h=>by rw[h2]at h;cases h;exact⟨rfl,rfl⟩
 ·exact fin b c' size h6 h3 h5 h4 (.inr h2) (hq.ht.none h2) (.inr h1) (fun _ _ _ h=>by rw[h2]at h;cases h) fun _ _ _ h=>by rw[h2]at h;cases h
end
end Go.Rt
namespace Go.aI
open Go.RowKit
section
variable {P:Program}{n0 nt:Nat}{T T2:Tm}{hp H:Tr AO}{nx X:Pz}{G:GH}{ops:Array Oper}{aF:List Nat}{i m d:Nat}{v u:AV}
theorem gm.Ja {t e:TypeId}{yl yc:Operand}{m n:Nat}{z:AV}{R:Tm->Tr AO->Pz->GH->Prop}(hg:(af ops i).guard=none)(hd:(af ops i).dst=some d)(hlt:d<nt)(ho:(af ops i).op=.makeSlice t yl yc)(hu:P.underlying t=some (.slice e))(hz:zeroOf P e=some z)
  (hgz:(Nat.beq z.cells.length (ae P e)&&(Nat.ble (ae P e) 1000&&(Nat.blt 0 (ae P e)&&Nat.ble (P.bytesOf e) 1000000)))=true) (hl:bH nt T yl (.int .i64 (.ofNat m))) (hc:bH nt T yc (.int .i64 (.ofNat n))) (hmn:m<=n) (hn:n<=16777216) (hnf:lC z.cells)
  (hr:∀b,n0<=b->G b=none->R (T.put d (.cN b 0 m n)) hp nx (dj G b (.cells .data e (n*ae P e) (fS n z.cells)))):gm P n0 nt ops i T hp nx G R:=by
 intro B w0 ι a w hs;refine .inl ⟨by simp[Region.wanted,hg],?_⟩;rw[hd];have hval:=(hs.1.2 ι (al.refl _ _)).1;simp only[za]at hgz;obtain⟨g1,g2,g3,g5⟩:=hgz;have g1:=ai g1;have g2:=aK g2;have g3:=av g3;have g5:=aK g5;obtain⟨j,zv,q1,q2,q3,q4⟩:=cJ hz;have hbytes:P.bytesOf e=j.bytes:=by unfold Program.bytesOf;rw[q1];rfl
 have hsz:j.size=ae P e:=by unfold ae;rw[q1];rfl
 have xC:j.bytes*n<=1000000*16777216:=zeb (by omega) hn;have hz':zv.cells=(ao ι z.cells).toArray:=by rw[<-eR 8 zv z q3 ι,bZ]
 have hmade:madeCells zv.cells (n*j.size)=(ao ι (fS n z.cells)).toArray:=by
  unfold madeCells;rw[hz',hsz,<-g1];exact qh ι z.cells (by omega) n
 have hrun:(execOp a.eval (af ops i)).run P w=.ok (.value (.slice (some ⟨w.heap.size,0,none⟩) m n)) (w.alloc (.cells (ao ι (fS n z.cells)).toArray e (0,0))):=by
  simp only[execOp,ho,Sem.run_bind];rw[hl ι a hval,hc ι a hval,er,er];have hrm:=run_make w t e j zv hu q1 q2 .i64 .i64 (m:Int) (n:Int) (by omega) (by omega) (by omega) (by omega);rw[hrm];simp only[Result.andThen_ok,Sem.run_pure,zcy];rw[hmade]
 have hrl:(fS n z.cells).length=n*ae P e:=by rw[fN,g1]
 have hnfr:lC (fS n z.cells):=by
  clear hrun hmade xC hrl hn hmn hl hc hr
  induction n with
  |zero=>exact jt
  |succ n ih=>exact iB hnf ih
 obtain⟨p1,p2,p3⟩:=qH (kd:=.data) (el:=e) hs hnfr;rw[hrl]at p1;exact .inl ⟨_,_,.inl hrun,_,_,_,_,ι,hr _ p2 p3,gz p1 hlt (ja _ _ _ _) (by simp[ak,gL])⟩
theorem gm.Jb {t e:TypeId}{yl yc:Operand}{n:Nat}{z:AV}{R:Tm->Tr AO->Pz->GH->Prop}(hg:(af ops i).guard=none)(hd:(af ops i).dst=some d)(hlt:d<nt)(ho:(af ops i).op=.makeSlice t yl yc)(hu:P.underlying t=some (.slice e))(hz:zeroOf P e=some z)
  (hgz:(Nat.beq z.cells.length (ae P e)&&(Nat.ble (ae P e) 1000&&(Nat.blt 0 (ae P e)&&Nat.ble (P.bytesOf e) 1000000)))=true) (hl:bH nt T yl (.int .i64 (.ofNat n))) (hc:bH nt T yc (.int .i64 (.ofNat n))) (hn:n<=16777216) (hnf:lC z.cells)
  (hr:∀b,n0<=b->G b=none->R (T.put d (.cN b 0 n n)) hp nx (dj G b (.cells .data e (n*ae P e) (fS n z.cells)))):gm P n0 nt ops i T hp nx G R:=gm.Ja hg hd hlt ho hu hz hgz hl hc (zad _) hn hnf hr
end
end Go.aI
namespace Go.Rt
open Go.aI Go.RowKit
def sZ (G G':GH):Prop:=∀b,G' b=G b∨∃el size C,G b=some (.cells .loc el size C)/\G' b=some (.cells .data el size C)
theorem sZ.refl (G:GH):sZ G G:=fun b=>.inl rfl
theorem Bf {n0:Nat}{B:Nat->Prop}{w0 w:World}{nt:Nat}{T:Tm}{hp:Tr AO}{nx:Pz}{G G':GH}{ι:En}{a:Act}(h:c8 n0 B w0 nt T hp nx G ι a w)(hr:sZ G G'):c8 n0 B w0 nt T hp nx G' ι a w:=by
 refine⟨h.1,fun b g hg=>?_,fun id o h1 h2=>?_,h.2.2.2.1,fun b hb hn=>h.2.2.2.2 b hb ?_⟩
 ·rcases hr b with e|⟨el,size,C,e1,e2⟩
  ·exact h.2.1 b g (by rw[<-e];exact hg)
  ·rw[e2]at hg;cases hg;have:=h.2.1 b _ e1;obtain⟨p1,A,fz,p2,p3,p4,p5,p6⟩:=this;exact⟨p1,A,fz,p2,p3,p4,fun i hi _=>p5 i hi (fun h=>by cases h),fun _=>p6 (fun e=>by cases e)⟩
 ·have:=h.2.2.1 id o h1 h2;rcases hr (ι.aS id)with e|⟨el,size,C,e1,e2⟩
  ·rw[e];exact this
  ·rw[this]at e1;cases e1
 ·rcases hr b with e|⟨el,size,C,e1,e2⟩
  ·rw[<-e];exact hn
  ·rw[e2]at hn;cases hn
def gr (Γ:dy)(g:Nat)(d:Gd)(k:Nat):dy:=⟨Γ.m,fun x=>if x=g then d else Γ.gd x,k⟩
theorem eZ (Γ:dy)(g:Nat)(d:Gd)(k:Nat):(gr Γ g d k).gd g=d:=by simp[gr]
theorem gG {Γ:dy}{g x:Nat}{d:Gd}{k:Nat}(h:x≠g):(gr Γ g d k).gd x=Γ.gd x:=by simp[gr,h]
section
variable {c:Cx}{ops:Array Oper}{i m d f:Nat}{T:Tm}{G G':GH}{Γ Γ':dy}{st st':St}{v u:AV}{P:Program}{Φ:Forms}
theorem n7 {g:Nat}{dn:Gd}{k:Nat}(h:g<Γ.ng->(Γ.gd g).Le dn)(hk:Γ.ng<=k):dk Γ (gr Γ g dn k):=⟨fun b x hb=>⟨x,hb,oc.refl x⟩,fun x hx=>by
 by_cases e:x=g
 ·subst e;rw[eZ];exact h hx
 ·rw[gG e];exact Gd.Le.refl _,hk⟩
theorem HT.Jc (ht:HT P Φ G Γ){g:Nat}{dn:Gd}{k:Nat}(h0:0<g)(h:g<Γ.ng->(Γ.gd g).Le dn/\(Γ.gd g).fz=false)(hk:Γ.ng<=k):HT P Φ G (gr Γ g dn k):=by
 have hle:=n7 (k:=k) (fun e=>(h e).1) hk;refine⟨⟨by rw[gG (by omega)];exact ht.z.1,zaw ht.z.2 hk⟩,fun b x hb=>?_⟩;have hx:=ht.b b x hb;cases x with
 |cells cc g' L =>
  obtain⟨h1,h2,size,C,h3,h4,h5⟩:=hx;exact⟨⟨zaw h1.1 hk,h1.2⟩,h2,size,C,h3,h4,fun j m hj=>(h5 j m hj).le (dR.refl _) hle h1.1⟩
 |map cc g' =>
  obtain⟨h1,es,h3,h4,h5⟩:=hx;refine⟨zaw h1 hk,es,h3,h4,?_⟩;by_cases e:g'=g
  ·subst e;obtain⟨hd,hf⟩:=h h1;obtain⟨k1,k2⟩:=h5;refine⟨k1,?_⟩;rw[eZ];cases hm:Φ.mv cc with
   |kd kd=>rw[hm]at k2;exact fun p hp=>by obtain⟨fs,q1,q2⟩:=k2 p hp;exact⟨fs,q1.le hd,fun f hf=>(q2 f hf).le (dR.refl _) hle⟩
   |unit=>rw[hm]at k2;exact k2
   |F5 b=>rw[hm]at k2;have:=k2.2.2.1;rw[hf]at this;cases this
   |Ii=>rw[hm]at k2;have:=k2.2.1;rw[hf]at this;cases this
   |kn b kd=>rw[hm]at k2;exact⟨fun p hp=>(k2.1 p hp).le (hd.n b),fun p hp=>by obtain⟨fs,q1,q2⟩:=k2.2 p hp;exact⟨fs,q1.le hd,fun f hf=>(q2 f hf).le (dR.refl _) hle⟩⟩
  ·exact h5.le (dR.refl _) hle (gG e)
theorem Q.Jc (hq:Q c T G Γ st){g:Nat}{d0 dn:Gd}{w:Bool}{gs':List (Nat×Gd×Bool)}(hg:(g,d0,true)∈st.gs)(hle:d0.Le dn)(hw:w=true->dn.fz=false)(ham:∀b g' k,Own.am b g' k∈st.os->dn.at_=d0.at_)(hgs:∀p∈gs',p=(g,dn,w)∨(p∈st.gs/\p.1≠g)):Q c T G (gr Γ g dn Γ.ng) ⟨st.L,st.os,st.dQ,gs'⟩:=by
 obtain⟨q1,q2,q3⟩:=hq.gs _ hg;obtain⟨q3,q4,q5⟩:=q3 rfl;have q1:g<Γ.ng:=q1;have q2:Γ.gd g=d0:=q2;have q4:d0.fz=false:=q4;have hl:dk Γ (gr Γ g dn Γ.ng):=n7 (fun _=>by rw[q2];exact hle) (zad _)
 have hr:Rl c.Φ c.S c.Sg c.G0 c.Γ0 G (gr Γ g dn Γ.ng):=by
  have r:=hq.rl;refine⟨r.g,r.r,r.t,r.le.trans hl,fun x hx hn=>?_,r.OO,r.im⟩
  have:x≠g:=fun e=>by
   subst e;rcases q3 with h|h
   ·exact hn h
   ·have h:c.Γ0.ng<=x:=h;omega
  rw[gG this];exact r.gs x hx hn
 refine⟨hq.ml,hq.at_,hq.uB,hr,hq.grow,fun o ho=>?_,hq.new,hq.nd,hq.ht.Jc q5 (fun _=>by rw[q2];exact⟨hle,q4⟩) (zad _),fun f hf=>(hq.ty f hf).le (dR.refl _) hl,fun p hp=>?_⟩
 ·have:=hq.own o ho;cases o with
  |loc b el C=>exact this
  |iF v cc g' ms=>exact this
  |ms b v cc g' f q=>exact this
  |map b pk es=>exact this
  |ul v cc g' n =>
   obtain⟨h1,h2,h3⟩:=this;refine⟨h1,h2,?_⟩;rcases h3 with h3|⟨b,cap,size,C,k1,k2,k3,k4,k5,k6,k7⟩
   ·exact .inl h3
   ·exact .inr ⟨b,cap,size,C,k1,k2,k3,k4,k5,k6,fun j hj=>(k7 j hj).le (dR.refl _) hl h1⟩
  |am b g' k =>
   obtain⟨h1,h2,h3,es,h4,h5,h6⟩:=this;by_cases e:g'=g
   ·subst e;have ea:=ham b g' k ho;rw[q2]at h3 h6;refine⟨h1,h2,?_,es,h4,⟨zam h5.1 (by rw[q2,eZ];exact hle.n 5),h5.2⟩,?_⟩
    ·rw[eZ,ea];exact fun l n j h=>zaw (h3 l n j h) (hle.n k)
    ·rw[eZ,ea];exact h6
   ·exact⟨h1,h2,by rw[gG e];exact h3,es,h4,by rw[gG e];exact h5,by rw[gG e];exact h6⟩
  |im b k=>exact this
  |lr b nt tm ps x y=>exact this
  |bl v el ms=>exact this
  |km b cc g' n =>
   obtain⟨h1,h2,h3,es,h4,h5,h6,h7⟩:=this;exact⟨h1,h2,h3,es,h4,h5,h6,h7.J8 h3 (dR.refl _) hl h2⟩
  |kq b cc g' n q =>
   obtain⟨h1,h2,h3,es,h4,h5,h6,h7,h8⟩:=this;exact⟨h1,h2,h3,es,h4,h5,h6,h7.J8 h3 (dR.refl _) hl h2,h8⟩
  |rm v cc g' n=>exact this
  |it b m n r st ty=>exact this
 ·rcases hgs p hp with rfl|⟨h1,h2⟩
  ·exact⟨q1,eZ _ _ _ _,fun h=>⟨q3,hw h,q5⟩⟩
  ·obtain⟨k1,k2,k3⟩:=hq.gs p h1;exact⟨k1,by rw[gG h2];exact k2,k3⟩
theorem Q.UC (hq:Q c T G Γ st)(dn:Gd)(w:Bool)(hw:w=true->dn.fz=false):Q c T G (gr Γ Γ.ng dn (Γ.ng+1)) ⟨st.L,st.os,st.dQ,(Γ.ng,dn,w)::st.gs⟩:=by
 have hl:dk Γ (gr Γ Γ.ng dn (Γ.ng+1)):=n7 (fun h=>absurd h (by omega)) (zan _)
 have hr:Rl c.Φ c.S c.Sg c.G0 c.Γ0 G (gr Γ Γ.ng dn (Γ.ng+1)):=by
  have r:=hq.rl;refine⟨r.g,r.r,r.t,r.le.trans hl,fun x hx hn=>?_,r.OO,r.im⟩;have:=r.le.ng;rw[gG (by omega)];exact r.gs x hx hn
 refine⟨hq.ml,hq.at_,hq.uB,hr,hq.grow,fun o ho=>?_,hq.new,hq.nd,hq.ht.Jc hq.ht.z.2 (fun h=>absurd h (by omega)) (zan _),fun f hf=>(hq.ty f hf).le (dR.refl _) hl,fun p hp=>?_⟩
 ·refine (hq.own o ho).bE (S:=[]) (Sg:=[]) ⟨fun b h _ h0=>⟨rfl,h0⟩,dR.refl _,fun b x h _ _=>h,hl,fun g hg _=>gG (by omega),fun b h=>h,fun _ _ _ _ _=>rfl⟩ (fun b _ h=>by cases h) (fun g hg=>?_) fun _ _ _ _ _=>rfl
  have:g<Γ.ng:=by
   have:=hq.own o ho;cases o<;>first|(cases hg;done)|skip
   cases hg;exact this.2.1
  exact gG (by omega)
 ·rcases List.mem_cons.1 hp with rfl|hp
  ·refine⟨by show Γ.ng<Γ.ng+1;omega,eZ _ _ _ _,fun h=>⟨.inr hq.rl.le.ng,hw h,hq.ht.z.2⟩⟩
  ·obtain⟨k1,k2,k3⟩:=hq.gs p hp;exact⟨by show p.1<Γ.ng+1;omega,by rw[gG (by omega)];exact k2,k3⟩
theorem Q.conv (hq:Q c T G Γ st){osA:List Own}{o o':Own}(ho:st.os.Perm (osA++[o]))(hb:o'.aS=o.aS)(h:dO c.P c.Φ G Γ o'):Q c T G Γ ⟨st.L,osA++[o'],st.dQ,st.gs⟩:=by
 refine⟨hq.ml,hq.at_,hq.uB,hq.rl,hq.grow,fun x hx=>?_,fun x hx b yz=>?_,?_,hq.ht,hq.ty,hq.gs⟩
 ·rcases List.mem_append.1 hx with hx|hx
  ·exact hq.own x (ho.mem_iff.2 (by simp[hx]))
  ·rw[List.mem_singleton.1 hx];exact h
 ·rcases List.mem_append.1 hx with hx|hx
  ·exact hq.new x (ho.mem_iff.2 (by simp[hx])) b yz
  ·rw[List.mem_singleton.1 hx,hb]at yz;exact hq.new o (ho.mem_iff.2 (by simp)) b yz
 ·have:=(ho.filterMap Own.aS).nodup_iff.1 hq.nd;show (cm (osA++[o'])).Nodup
  have e:cm (osA++[o'])=cm (osA++[o]):=by
   rw[fg,fg];congr 1;show List.filterMap Own.aS [o']=List.filterMap Own.aS [o];simp only[zdu,List.filterMap_nil,hb]
  rw[e];exact this
theorem Q.UD (hq:Q c T G Γ st){osA:List Own}{o:Own}{b:Nat}{y:Ds}{g':Gh}{tys':List TF}(ho:st.os.Perm (osA++[o]))(hb:o.aS=some b)(hm:Γ.m b=none)(hraw:∀el size C,G b≠some (.cells .raw el size C))(hdat:∀el size C,G b=some (.cells .data el size C)->∃C',g'=.cells .data el size C')
  (hds:dR G (dj G b g')->dk Γ (updΓ Γ b y)->uA c.P c.Φ (dj G b g') (updΓ Γ b y) b y) (h4:∀f∈tys',fF c.P c.Φ (dj G b g') (updΓ Γ b y) f):Q c T (dj G b g') (updΓ Γ b y) ⟨st.L,osA,tys'++st.dQ,st.gs⟩:=by
 have htold:=(hq.own o (ho.mem_iff.2 (by simp))).told hb
 have:=hq.nH (osA:=osA) (osB:=[o]) (os':=[]) (tys':=tys') (b:=b) (G':=dj G b g') (Γ':=updΓ Γ b y) ho (dG (.inl htold)) (fun k h=>updΓ_ne h) (fun k h=>aV h) (by rw[au];rfl) hraw
  (fun el size C h=>by obtain⟨C',h'⟩:=hdat el size C h;exact⟨C',by rw[au,h']⟩) (fun x h=>by rw[hm]at h;cases h) rfl rfl (.inl (eF.2 ⟨o,by simp,hb⟩))
  (fun x hr hl h=>by rw[updΓ_same]at h;cases h;exact hds hr hl) (fun o' h=>by cases h) (by show ([]:List Nat).Nodup;simp) (fun o' h=>by cases h) (fun f h _ _=>h4 f h) (fun _ _ h=>by rw[hm]at h;cases h)
 exact this.iq (fun _ _ h=>h) ⟨[],by simp⟩ (fun f h=>h) (fun p h=>h)
theorem Bg {b:Nat}{g:Gh}(h:G b=some g):dj G b g=G:=by
 funext k
 by_cases e:k=b
 ·subst e;rw[au,h]
 ·rw[aV e]
def UE:K2->K2->Bool
 |.sl q,.AR q'=>Nat.beq q q'
 |.x5 q _,.AR q'=>Nat.beq q q'
 |_,_=>false
theorem PA {a b:K2}(h:UE a b=true):∃q,(a=.sl q∨∃n,a=.x5 q n)/\b=.AR q:=by
 cases a<;>cases b<;>first|(cases h;done)|skip
 ·have:=ai h;subst this;exact⟨_,.inl rfl,rfl⟩
 ·have:=ai h;subst this;exact⟨_,.inr ⟨_,rfl⟩,rfl⟩
def Rw:List K2->List K2->Bool
 | [],[]=>true
 |k::ks,k'::ks'=>bif Rd.Pr k k' then Rw ks ks' else (UE k k'&&Rd.QD ks ks')
 |_,_=>false
theorem Jd {d0:Gd}{g j:Nat}:∀{ks ks':List K2}{cs:List AV}{fs:List TF},Rw ks ks'=true->ia Φ d0 g j ks cs fs->∃n:Nat,∀dn:Gd,d0.Le dn->dn.fz=true->dn.fl j=n->ia Φ dn g j ks' cs fs
 | [],[],_,_,_,h=>⟨0,fun dn _ _ _=>h⟩
 |k::ks,k'::ks',_,_,ht,⟨v,cs',f,fs',h1,h2,h3,h4⟩=>by
  have ht:(bif Rd.Pr k k' then Rw ks ks' else (UE k k'&&Rd.QD ks ks'))=true:=ht;cases hb:Rd.Pr k k' with
  |true =>
   rw[hb]at ht;have:=Rd.I5 hb;subst this;obtain⟨n,hn⟩:=Jd ht h4;exact⟨n,fun dn a1 a2 a3=>⟨v,cs',f,fs',h1,h2,h3.le a1,hn dn a1 a2 a3⟩⟩
  |false =>
   rw[hb]at ht;simp only[cond_false]at ht;rw[za]at ht;obtain⟨q,e0,e1⟩:=PA ht.1;have e2:=Rd.CX ht.2;subst e1 e2
   obtain⟨ns,hf⟩:∃ns,f=[.sl v q (gi Φ d0 g q) ns]:=by
    rcases e0 with e0|⟨n,e0⟩
    ·subst e0;exact h3
    ·subst e0;obtain⟨ns,hf,_⟩:=h3;exact⟨ns,hf⟩
   exact⟨ns.length,fun dn a1 a2 a3=>⟨v,cs',f,fs',h1,h2,⟨ns,by rw[oA a1];exact hf,a2,a3.symm⟩,h4.le a1⟩⟩
 | [],_::_,_,_,h,_=>by cases h
 |_::_,[],_,_,h,_=>by cases h
end
end Go.Rt
namespace Go.Rd
open Go.aI Go.RowKit Go.Rt
inductive An where
 |no|ty (c g:Nat)|ul (c g:Nat)|em (pk:KK)|im|bl|km (c g:Nat)|kq (c g:Nat)
def Eo (n:Nat)(l:List SC):List SC:=match n with|0=>[]|n+1=>l++Eo n l
theorem wT (ρ:aZ)(l:List SC):∀n,aB ρ (Eo n l)=fS n (aB ρ l)
 |0=>rfl
 |n+1=>by
  show aB ρ (l++Eo n l)=aB ρ l++fS n (aB ρ l);rw[<-wT ρ l n];simp[aB]
section
variable {c:Cx}{T:Tm}{G:GH}{Γ:dy}{ρ ρ':aZ}{s s':SS}{cf:Cf}{ops:Array Oper}{i d:Nat}
def UF (cf:Cf)(t:TypeId)(len:Nat)(ps:List (Nat×Operand))(d:Nat)(an:An)(s:SS)(K:SS->R):R:=match cf.P.underlying t with
 |some (.slice e)=>(match ((zeroOf cf.P e).bind sW).bind dN,uL s ps with
  |some z,some l=>bif Nat.ble len 10000&&(Nat.ble (ae cf.P e) 1000&&(Nat.beq z.length (ae cf.P e)&&Nat.blt 0 (ae cf.P e)))then
   (match wM (fun i=>some (i*ae cf.P e,ae cf.P e)) (IL l) (Eo len z)with
    |some cs=>bif Nat.beq cs.length (len*ae cf.P e)&&ya s.nx cs then
     (match an with
      |.no=>fresh s fun b s=>K (fZ (ir s (.loc b e cs)) d (sc (.wE b len)))
      |.ty cc g=>bif Nat.beq (cf.Φ.ty cc) e&&(pr s g&&(bJ s.nx g&&!cf.Φ.raw cc))then
       (match Gm cf s g cc (ae cf.P e) (.k 0) len cs with
        |some ls=>bif (!cf.Φ.gv cc||ls.all (fun e=>bo s ((LE.k WU).sub e)))&&(yA ls).lt s.nx then
         fresh s fun x s=>K (fZ (bif cf.Φ.gv cc then jR (aY s (.sl x cc g)) (.a (.len x)) (.k len)else jR (jR (dm (aY s (.sl x cc g)) (.iF x cc g::s.os)) (.a (.len x)) (.k len)) (.a (.wt x)) (yA ls)) d (sc (.ref x)))
         else .bad 160 s
        |none=>.bad 161 s)
       else .bad 162 s
      |_=>.bad 163 s)
     else .bad 164 s
    |none=>.bad 165 s)
   else .bad 166 s
  |_,_=>.bad 167 s)
 |_=>.bad 168 s
theorem PB {t:TypeId}{len:Nat}{ps:Array (Nat×Operand)}{an:An}{K:SS->R}(ho:(af ops i).op=.buildSlice t len ps)(hg:(af ops i).guard=none)(hd:(af ops i).dst=some d)(hlt:d<c.nt)(hP:cf.P=c.P)(hΦ:cf.Φ=c.Φ)(h:(UF cf t len ps.toList d an s K).Ok)(hk:Ok c T G Γ ρ s):Hv c T G Γ ops i s ρ K:=by
 unfold UF at h;rw[hP,hΦ]at h;split at h
 ·rename_i e hu;split at h
  ·rename_i z l hz hl;cases hb:(Nat.ble len 10000&&(Nat.ble (ae c.P e) 1000&&(Nat.beq z.length (ae c.P e)&&Nat.blt 0 (ae c.P e))))with
   |false=>rw[hb]at h;cases h
   |true =>
    rw[hb]at h;simp only[cond_true]at h;cases hzz:zeroOf c.P e with
    |none=>rw[hzz]at hz;cases hz
    |some zz =>
     rw[hzz]at hz;simp only[zcb]at hz;cases hv:sW zz with
     |none=>rw[hv]at hz;cases hz
     |some w =>
      rw[hv]at hz;have hz:dN w=some z:=hz;have e1:zz.cells=aB ρ z:=by rw[<-jc hv ρ];exact fy hz ρ
      have e1l:zz.cells.length=z.length:=by rw[e1];simp[aB]
      split at h
      ·rename_i cs hf;cases hb2:(Nat.beq cs.length (len*ae c.P e)&&ya s.nx cs)with
       |false=>rw[hb2]at h;cases h
       |true =>
        rw[hb2]at h;simp only[cond_true]at h;rw[za]at hb2;obtain⟨p1,p2⟩:=rI hk.q hl;have hfill:=uM hf p2;rw[wT,<-e1]at hfill;have kM:(aB ρ cs).length=cs.length:=by simp[aB]
        have hcs:=ai hb2.1;have hgz:(Nat.ble len 10000&&(Nat.ble (ae c.P e) 1000&&(Nat.beq zz.cells.length (ae c.P e)&&Nat.blt 0 (ae c.P e))))=true:=by rw[e1l];exact hb
        split at h
        ·refine gm.sx .loc hg hd hlt ho hu hzz hgz p1 hfill (fp _ _) (by rw[kM];exact hcs) fun b hb hb'=>⟨rfl,rfl,?_⟩;obtain⟨h1,h2,h3,h4⟩:=aA h hk (.n b);refine⟨Γ,_,_,h1,h2,zan _,?_⟩;have e1:(ρ.up s.nx (.n b) s.nx).nn=b:=by rw[h4];rfl
         have e2:aB (ρ.up s.nx (.n b)) cs=aB ρ cs:=lu h2 hb2.2;have q:=h3.q.A7 hb hb' (.loc b e (aB ρ cs)) rfl ⟨au _ _ _,h3.q.ht.none hb'⟩
         have hq:Q c T (dj G b (.cells .loc e (aB ρ cs).length (aB ρ cs))) Γ ((ir (aC s) (.loc s.nx e cs)).den (ρ.up s.nx (.n b))):=by
          have:(ir (aC s) (.loc s.nx e cs)).den (ρ.up s.nx (.n b))=⟨((aC s).den (ρ.up s.nx (.n b))).L,.loc b e (aB ρ cs)::((aC s).den (ρ.up s.nx (.n b))).os,((aC s).den (ρ.up s.nx (.n b))).dQ,((aC s).den (ρ.up s.nx (.n b))).gs⟩:=by
           unfold ir SS.den;simp only[zal,SO.den,e1,e2]
          rw[this];exact q
         have ok1:Ok c T (dj G b (.cells .loc e (aB ρ cs).length (aB ρ cs))) Γ (ρ.up s.nx (.n b)) (ir (aC s) (.loc s.nx e cs)):=⟨⟨h3.sat.fs,h3.sat.bs,h3.sat.pw,h3.sat.ats,h3.sat.cU,h3.sat.ne,h3.sat.fz,h3.sat.sb⟩,hq⟩;have:=ok1.put (v:=sc (.wE s.nx len)) d;rw[show (sc (.wE s.nx len)).den (ρ.up s.nx (.n b))=.cN b 0 len len by show AV.cN (ρ.up s.nx (.n b) s.nx).nn 0 len len=_;rw[e1]]at this;exact this
        ·rename_i cc g;cases hb3:(Nat.beq (c.Φ.ty cc) e&&(pr s g&&(bJ s.nx g&&!c.Φ.raw cc)))with
         |false=>rw[hb3]at h;cases h
         |true =>
          rw[hb3]at h;simp only[cond_true]at h;simp only[za,zaj]at hb3;obtain⟨b1,b2,b3,hrw⟩:=hb3;have b1:=ai b1;subst b1;cases hel:Gm cf s g cc (ae c.P (c.Φ.ty cc)) (.k 0) len cs with
          |none=>rw[hel]at h;cases h
          |some ls =>
           rw[hel]at h;simp only at h;cases hb4:((!c.Φ.gv cc||ls.all (fun e=>bo s ((LE.k WU).sub e)))&&(yA ls).lt s.nx)with
           |false=>rw[hb4]at h;cases h
           |true =>
            rw[hb4]at h;simp only[cond_true]at h;rw[za]at hb4;obtain⟨ns,k1,k2,k3,k4⟩:=yB hΦ hk hel (by rw[LE.bz];exact zch _) rfl;have hz0:((LE.k 0).ev ρ).toNat=0:=by rw[LE.bz];rfl
            rw[hz0]at k3
            -- the labels
            obtain⟨L,m1,m2,m3,m4⟩:∃L:List Nat,L.length=len/\(c.Φ.gv cc=true->∀m∈L,m=WU)/\(∀j m,L[j]?=some m->eT c.P c.Φ G Γ m cc (ig ρ g) j (((aB ρ cs).drop (j*ae c.P (c.Φ.ty cc))).take (ae c.P (c.Φ.ty cc))))/\(c.Φ.gv cc=false->L=ns):=by
             cases hun:c.Φ.gv cc with
             |false=>exact⟨ns,k1,fun h=>(by cases h),fun j m hj=>by have:=k3 j m hj;rwa[zaq]at this,fun _=>rfl⟩
             |true =>
              refine⟨List.replicate len WU,by simp,fun _ m hm=>zbs hm,fun j m hj=>?_,fun h=>by cases h⟩;have hm:=zbs (zba hj);have hjl:=(List.getElem?_eq_some_iff.1 hj).1;rw[zai,<-k1]at hjl;subst hm;have:=k3 j _ (zap hjl);rw[zaq]at this;refine this.more ?_;obtain⟨e0,e01,e02⟩:=k4 _ (zdb hjl);rw[hun]at hb4;simp only[zcz,zcp]at hb4;have:=ax (List.all_eq_true.1 hb4.1 e0 e01) hk.sat;rw[LE.aw,LE.bz,e02]at this;omega
            have hlim:L.length<=jB:=by
             rw[m1];simp only[za]at hb;have:=aK hb.1;unfold jB;omega
            refine gm.sx .data hg hd hlt ho hu hzz hgz p1 hfill (fp _ _) (by rw[kM];exact hcs) fun b hb hb'=>⟨rfl,rfl,?_⟩
            have hqT:∀f∈[TF.sl (.cN b 0 len len) cc (ig ρ g) L],fF c.P c.Φ (dj G b (.cells .data (c.Φ.ty cc) (aB ρ cs).length (aB ρ cs))) (updΓ Γ b (.cells cc (ig ρ g) L)) f:=fun f hf=>by
             rw[List.mem_singleton.1 hf];exact⟨hlim,.inr (.inr ⟨b,len,L,(aB ρ cs).length,aB ρ cs,by rw[m1],updΓ_same _ _ _,(zcj).symm,au _ _ _,by rw[kM,hcs];exact zad _,by rw[m1];exact zad _⟩)⟩
            have hq:=hk.q.Ln (cc:=cc) (g:=ig ρ g) (L:=L) (size:=(aB ρ cs).length) (C:=aB ρ cs) (tys':=[.sl (.cN b 0 len len) cc (ig ρ g) L]) hb hb' (gJ b2 hk) hrw m2 (by rw[kM,hcs,m1]) m3 hqT;have hqL:=fun hun=>hk.q.Ru (cc:=cc) (g:=ig ρ g) (L:=L) (n:=len) (size:=(aB ρ cs).length) (C:=aB ρ cs) (tys':=[.sl (.cN b 0 len len) cc (ig ρ g) L]) hb hb' (gJ b2 hk) hrw hun (by rw[kM,hcs,m1]) rfl m1 hlim m3 hqT
            have fin:∀(O:List SO) (O':List Own) (K2:Nat->SS->R),Q c T (dj G b (.cells .data (c.Φ.ty cc) (aB ρ cs).length (aB ρ cs))) (updΓ Γ b (.cells cc (ig ρ g) L)) ⟨(s.den ρ).L,O'++(s.den ρ).os,.sl (.cN b 0 len len) cc (ig ρ g) L::(s.den ρ).dQ,(s.den ρ).gs⟩->(∀ρ':aZ,(ρ' s.nx).vv=.cN b 0 len len->(ρ' s.nx).ns=L->ig ρ' g=ig ρ g->O.map (SO.den ρ')=O')->(fresh s K2).Ok->∃ρ',(K2 s.nx (aC s)).Ok/\cM s.nx ρ ρ'/\Ok c T (dj G b (.cells .data (c.Φ.ty cc) (aB ρ cs).length (aB ρ cs))) (updΓ Γ b (.cells cc (ig ρ g) L)) ρ' (jR (dm (aY (aC s) (.sl s.nx cc g)) (O++s.os)) (.a (.len s.nx)) (.k len))/\(ρ' s.nx).vv=.cN b 0 len len/\(ρ' s.nx).ns=L:=fun O O' K2 hq hO h=>by
             obtain⟨r1,r2,r3,r4⟩:=aA h hk (.v (.cN b 0 len len) L);have hv':(ρ.up s.nx (.v (.cN b 0 len len) L) s.nx).vv=.cN b 0 len len:=by rw[r4];rfl
             have hn':(ρ.up s.nx (.v (.cN b 0 len len) L) s.nx).ns=L:=by rw[r4];exact U.iw hlim
             have eD:=(SS.bG (dB h) r2).1;refine⟨_,r1,r2,Ok.jR ⟨⟨r3.sat.fs,r3.sat.bs,r3.sat.pw,r3.sat.ats,r3.sat.cU,r3.sat.ne,r3.sat.fz,r3.sat.sb⟩,?_⟩ ?_,hv',hn'⟩
             ·have:(dm (aY (aC s) (.sl s.nx cc g)) (O++s.os)).den (ρ.up s.nx (.v (.cN b 0 len len) L))=⟨(s.den ρ).L,O'++(s.den ρ).os,.sl (.cN b 0 len len) cc (ig ρ g) L::(s.den ρ).dQ,(s.den ρ).gs⟩:=by
                refine St.ext' (by have:=congrArg St.L eD;exact this) (by show (O++s.os).map (SO.den _)=_;rw[zat,hO _ hv' hn' (ba r2 b3)];congr 1;have:=congrArg St.os eD;exact this) ?_ (by have:=congrArg St.gs eD;exact this);show c6.den _ (.sl s.nx cc g)::s.ty.map (c6.den _)=_;rw[show s.ty.map (c6.den (ρ.up s.nx (.v (.cN b 0 len len) L)))=(s.den ρ).dQ from congrArg St.dQ eD];simp only[c6.den];rw[hv',hn',ba r2 b3]
              rw[this];exact hq
             ·rw[LE.aQ,LE.bz];show (((ρ.up s.nx (.v (.cN b 0 len len) L) s.nx).ns.length:Nat):Int)=_;rw[hn',m1]
            cases hun:c.Φ.gv cc with
            |true =>
             rw[hun]at h;obtain⟨ρ',r1,r2,r3,r4,r5⟩:=fin [] [] _ hq (fun _ _ _ _=>rfl) h;refine⟨updΓ Γ b (.cells cc (ig ρ g) L),ρ',_,r1,r2,zan _,?_⟩;have:=r3.put (v:=sc (.ref s.nx)) d;rw[show (sc (.ref s.nx)).den ρ'=.cN b 0 len len from r4]at this;exact this
            |false =>
             rw[hun]at h;obtain⟨ρ',r1,r2,r3,r4,r5⟩:=fin [.iF s.nx cc g] [.iF (.cN b 0 len len) cc (ig ρ g) L] _ (hqL hun) (fun ρ' a1 a2 a3=>by simp only[zal,zdy,SO.den,a1,a2,a3]) h;refine⟨updΓ Γ b (.cells cc (ig ρ g) L),ρ',_,r1,r2,zan _,?_⟩
             have:=(r3.jR (a:=.a (.wt s.nx)) (b:=yA ls) (by
              rw[LE.aQ,LE.bG r2 hb4.2,<-k2];show (((ρ' s.nx).ns.sum+(ρ' s.nx).ns.length:Nat):Int)=_
              rw[r5,m4 hun])).put (v:=sc (.ref s.nx)) d
             rw[show (sc (.ref s.nx)).den ρ'=.cN b 0 len len from r4]at this;exact this
        ·cases h
      ·cases h
  ·cases h
 ·cases h
def xC (cf:Cf)(d:Nat)(an:An)(s:SS)(K:SS->R):R:=match an with
 |.em pk=>fresh s fun b s=>K (fZ (ir s (.em b pk)) d (sc (.cV b)))
 |.im=>fresh s fun b s=>K (fZ (ir s (.im b (.k 0))) d (sc (.cV b)))
 |.ty cc g=>(match cf.Φ.mv cc with
  |.kd _=>bif pr s g&&bJ s.nx g then fresh s fun x s=>K (fZ (aY s (.mp x cc g)) d (sc (.ref x)))else .bad 170 s
  |.unit=>bif pr s g&&bJ s.nx g then fresh s fun x s=>K (fZ (aY s (.mp x cc g)) d (sc (.ref x)))else .bad 170 s
  |_=>.bad 171 s)
 |.km cc g=>bif ON (cf.Φ.mv cc)&&(pr s g&&bJ s.nx g)then fresh s fun b s=>K (fZ (ir s (.km b cc g (.k 0))) d (sc (.cV b)))else .bad 173 s
 |.kq cc g=>bif ON (cf.Φ.mv cc)&&(pr s g&&bJ s.nx g)then fresh s fun b s=>K (fZ (ir s (.kq b cc g (.k 0) none)) d (sc (.cV b)))else .bad 173 s
 |_=>.bad 172 s
theorem PC {t:TypeId}{an:An}{K:SS->R}(ho:(af ops i).op=.makeMap t none)(hg:(af ops i).guard=none)(hd:(af ops i).dst=some d)(hlt:d<c.nt)(hP:cf.P=c.P)(hΦ:cf.Φ=c.Φ)(h:(xC cf d an s K).Ok)(hk:Ok c T G Γ ρ s):Hv c T G Γ ops i s ρ K:=by
 unfold xC at h;rw[hΦ]at h;split at h
 ·rename_i pk;refine gm.AN hg hd hlt ho fun b hb hb'=>⟨rfl,rfl,?_⟩;obtain⟨h1,h2,h3,h4⟩:=aA h hk (.n b);have e1:(ρ.up s.nx (.n b) s.nx).nn=b:=by rw[h4];rfl
  have q:=h3.q.A7 (g:=.map []) hb hb' (.map b pk []) rfl ⟨au _ _ _,h3.q.ht.none hb',fun p hp=>by cases hp⟩;refine⟨Γ,_,_,h1,h2,zan _,?_⟩
  have ok1:Ok c T (dj G b (.map [])) Γ (ρ.up s.nx (.n b)) (ir (aC s) (.em s.nx pk)):=⟨⟨h3.sat.fs,h3.sat.bs,h3.sat.pw,h3.sat.ats,h3.sat.cU,h3.sat.ne,h3.sat.fz,h3.sat.sb⟩,by
   have:(ir (aC s) (.em s.nx pk)).den (ρ.up s.nx (.n b))=⟨((aC s).den (ρ.up s.nx (.n b))).L,.map b pk []::((aC s).den (ρ.up s.nx (.n b))).os,((aC s).den (ρ.up s.nx (.n b))).dQ,((aC s).den (ρ.up s.nx (.n b))).gs⟩:=by
    unfold ir SS.den;simp only[zal,SO.den,e1]
   rw[this];exact q⟩
  have:=ok1.put (v:=sc (.cV s.nx)) d;rw[show (sc (.cV s.nx)).den (ρ.up s.nx (.n b))=.cV b by show AV.cV (ρ.up s.nx (.n b) s.nx).nn=_;rw[e1]]at this;exact this
 ·refine gm.AN hg hd hlt ho fun b hb hb'=>⟨rfl,rfl,?_⟩;obtain⟨h1,h2,h3,h4⟩:=aA h hk (.n b);have e1:(ρ.up s.nx (.n b) s.nx).nn=b:=by rw[h4];rfl
  have q:=h3.q.A7 (g:=.map []) hb hb' (.im b 0) rfl ⟨h3.q.ht.none hb',[],au _ _ _,fun p hp=>by cases hp⟩;refine⟨Γ,_,_,h1,h2,zan _,?_⟩
  have ok1:Ok c T (dj G b (.map [])) Γ (ρ.up s.nx (.n b)) (ir (aC s) (.im s.nx (.k 0))):=⟨⟨h3.sat.fs,h3.sat.bs,h3.sat.pw,h3.sat.ats,h3.sat.cU,h3.sat.ne,h3.sat.fz,h3.sat.sb⟩,by
   have:(ir (aC s) (.im s.nx (.k 0))).den (ρ.up s.nx (.n b))=⟨((aC s).den (ρ.up s.nx (.n b))).L,.im b 0::((aC s).den (ρ.up s.nx (.n b))).os,((aC s).den (ρ.up s.nx (.n b))).dQ,((aC s).den (ρ.up s.nx (.n b))).gs⟩:=by
    unfold ir SS.den;simp only[zal,SO.den,e1,LE.bz];rfl
   rw[this];exact q⟩
  have:=ok1.put (v:=sc (.cV s.nx)) d;rw[show (sc (.cV s.nx)).den (ρ.up s.nx (.n b))=.cV b by show AV.cV (ρ.up s.nx (.n b) s.nx).nn=_;rw[e1]]at this;exact this
 ·rename_i cc g
  have key:fP c.P c.Φ G Γ cc (ig ρ g) []->((bif pr s g&&bJ s.nx g then fresh s fun x s=>K (fZ (aY s (.mp x cc g)) d (sc (.ref x)))else .bad 170 s)).Ok->Hv c T G Γ ops i s ρ K:=fun hm h=>by
   cases hb:(pr s g&&bJ s.nx g)with
   |false=>rw[hb]at h;cases h
   |true =>
    rw[hb]at h;simp only[cond_true]at h;rw[za]at hb;refine gm.AN hg hd hlt ho fun b hb1 hb'=>⟨rfl,rfl,?_⟩;have q:=hk.q.Uw (cc:=cc) (g:=ig ρ g) (tys':=[.mp (.cV b) cc (ig ρ g)]) hb1 hb' (gJ hb.1 hk) hm (fun f hf=>by rw[List.mem_singleton.1 hf];exact⟨b,rfl,updΓ_same _ _ _⟩);obtain⟨r1,r2,r3,r4⟩:=aA h hk (.v (.cV b) []);have hv':(ρ.up s.nx (.v (.cV b) []) s.nx).vv=.cV b:=by rw[r4];rfl
    have eD:=(SS.bG (dB h) r2).1;refine⟨updΓ Γ b (.map cc (ig ρ g)),ρ.up s.nx (.v (.cV b) []),fZ (aY (aC s) (.mp s.nx cc g)) d (sc (.ref s.nx)),r1,r2,zan _,?_⟩
    have ok1:Ok c T (dj G b (.map [])) (updΓ Γ b (.map cc (ig ρ g))) (ρ.up s.nx (.v (.cV b) [])) (aY (aC s) (.mp s.nx cc g)):=⟨⟨r3.sat.fs,r3.sat.bs,r3.sat.pw,r3.sat.ats,r3.sat.cU,r3.sat.ne,r3.sat.fz,r3.sat.sb⟩,by
     have:(aY (aC s) (.mp s.nx cc g)).den (ρ.up s.nx (.v (.cV b) []))=⟨(s.den ρ).L,(s.den ρ).os,.mp (.cV b) cc (ig ρ g)::(s.den ρ).dQ,(s.den ρ).gs⟩:=by
      refine St.ext' (by have:=congrArg St.L eD;exact this) (by have:=congrArg St.os eD;exact this) ?_ (by have:=congrArg St.gs eD;exact this);show c6.den _ (.mp s.nx cc g)::s.ty.map (c6.den _)=_;rw[show s.ty.map (c6.den (ρ.up s.nx (.v (.cV b) [])))=(s.den ρ).dQ from congrArg St.dQ eD];simp only[c6.den];rw[hv',ba r2 hb.2]
     rw[this];exact q⟩
    have:=ok1.put (v:=sc (.ref s.nx)) d;rw[show (sc (.ref s.nx)).den (ρ.up s.nx (.v (.cV b) []))=.cV b from hv']at this;exact this
  split at h
  ·rename_i kd hm;exact key (by unfold fP;rw[hm];exact⟨fun p hp=>(by cases hp),fun p hp=>(by cases hp)⟩) h
  ·rename_i hm;exact key (by unfold fP;rw[hm];exact⟨fun p hp=>(by cases hp),fun p hp=>(by cases hp)⟩) h
  ·cases h
 ·rename_i cc g;cases hb:(ON (c.Φ.mv cc)&&(pr s g&&bJ s.nx g))with
  |false=>rw[hb]at h;cases h
  |true =>
   rw[hb]at h;simp only[cond_true]at h;simp only[za]at hb;refine gm.AN hg hd hlt ho fun b hb1 hb'=>⟨rfl,rfl,?_⟩;obtain⟨h1,h2,h3,h4⟩:=aA h hk (.n b);have e1:(ρ.up s.nx (.n b) s.nx).nn=b:=by rw[h4];rfl
   have eg:ig (ρ.up s.nx (.n b)) g=ig ρ g:=ba h2 hb.2.2
   have hm:fP c.P c.Φ (dj G b (.map [])) Γ cc (ig ρ g) []:=by
    unfold fP;refine⟨fun p hp=>(by cases hp),?_⟩;have:=hb.1;cases hmv:c.Φ.mv cc with
    |kd k=>exact fun p hp=>by cases hp
    |unit=>exact fun p hp=>by cases hp
    |F5 b=>rw[hmv]at this;cases this
    |Ii=>rw[hmv]at this;cases this
    |kn b k=>exact⟨fun p hp=>(by cases hp),fun p hp=>(by cases hp)⟩
   have q:=h3.q.A7 (g:=.map []) hb1 hb' (.km b cc (ig ρ g) 0) rfl ⟨h3.q.ht.none hb',gJ hb.2.1 hk,hb.1,[],au _ _ _,rfl,(fun p hp=>by cases hp),hm⟩;refine⟨Γ,_,_,h1,h2,zan _,?_⟩
   have ok1:Ok c T (dj G b (.map [])) Γ (ρ.up s.nx (.n b)) (ir (aC s) (.km s.nx cc g (.k 0))):=⟨⟨h3.sat.fs,h3.sat.bs,h3.sat.pw,h3.sat.ats,h3.sat.cU,h3.sat.ne,h3.sat.fz,h3.sat.sb⟩,by
    have:(ir (aC s) (.km s.nx cc g (.k 0))).den (ρ.up s.nx (.n b))=⟨((aC s).den (ρ.up s.nx (.n b))).L,.km b cc (ig ρ g) 0::((aC s).den (ρ.up s.nx (.n b))).os,((aC s).den (ρ.up s.nx (.n b))).dQ,((aC s).den (ρ.up s.nx (.n b))).gs⟩:=by
     unfold ir SS.den;simp only[zal,SO.den,e1,eg,LE.bz];rfl
    rw[this];exact q⟩
   have:=ok1.put (v:=sc (.cV s.nx)) d;rw[show (sc (.cV s.nx)).den (ρ.up s.nx (.n b))=.cV b by show AV.cV (ρ.up s.nx (.n b) s.nx).nn=_;rw[e1]]at this;exact this
 ·rename_i cc g;cases hb:(ON (c.Φ.mv cc)&&(pr s g&&bJ s.nx g))with
  |false=>rw[hb]at h;cases h
  |true =>
   rw[hb]at h;simp only[cond_true]at h;simp only[za]at hb;refine gm.AN hg hd hlt ho fun b hb1 hb'=>⟨rfl,rfl,?_⟩;obtain⟨h1,h2,h3,h4⟩:=aA h hk (.n b);have e1:(ρ.up s.nx (.n b) s.nx).nn=b:=by rw[h4];rfl
   have eg:ig (ρ.up s.nx (.n b)) g=ig ρ g:=ba h2 hb.2.2
   have hm:fP c.P c.Φ (dj G b (.map [])) Γ cc (ig ρ g) []:=by
    unfold fP;refine⟨fun p hp=>(by cases hp),?_⟩;have:=hb.1;cases hmv:c.Φ.mv cc with
    |kd k=>exact fun p hp=>by cases hp
    |unit=>exact fun p hp=>by cases hp
    |F5 b=>rw[hmv]at this;cases this
    |Ii=>rw[hmv]at this;cases this
    |kn b k=>exact⟨fun p hp=>(by cases hp),fun p hp=>(by cases hp)⟩
   have q:=h3.q.A7 (g:=.map []) hb1 hb' (.kq b cc (ig ρ g) 0 none) rfl ⟨h3.q.ht.none hb',gJ hb.2.1 hk,hb.1,[],au _ _ _,rfl,(fun p hp=>by cases hp),hm,List.Pairwise.nil,fun k r hq=>(by cases hq)⟩;refine⟨Γ,_,_,h1,h2,zan _,?_⟩
   have ok1:Ok c T (dj G b (.map [])) Γ (ρ.up s.nx (.n b)) (ir (aC s) (.kq s.nx cc g (.k 0) none)):=⟨⟨h3.sat.fs,h3.sat.bs,h3.sat.pw,h3.sat.ats,h3.sat.cU,h3.sat.ne,h3.sat.fz,h3.sat.sb⟩,by
    have:(ir (aC s) (.kq s.nx cc g (.k 0) none)).den (ρ.up s.nx (.n b))=⟨((aC s).den (ρ.up s.nx (.n b))).L,.kq b cc (ig ρ g) 0 none::((aC s).den (ρ.up s.nx (.n b))).os,((aC s).den (ρ.up s.nx (.n b))).dQ,((aC s).den (ρ.up s.nx (.n b))).gs⟩:=by
     unfold ir SS.den;simp only[zal,SO.den,e1,eg,LE.bz];rfl
    rw[this];exact q⟩
   have:=ok1.put (v:=sc (.cV s.nx)) d;rw[show (sc (.cV s.nx)).den (ρ.up s.nx (.n b))=.cV b by show AV.cV (ρ.up s.nx (.n b) s.nx).nn=_;rw[e1]]at this;exact this
 ·cases h
end
end Go.Rd
namespace Go.Rd
open Go.aI Go.RowKit Go.Rt
def pB (f:SO->Bool):List SO->Option (SO×List SO)
 | []=>none
 |o::l=>bif f o then some (o,l)else (pB f l).map fun p=>(p.1,o::p.2)
theorem gj {f:SO->Bool}:∀{l l':List SO}{o:SO},pB f l=some (o,l')->f o=true/\l.Perm (l'++[o])
 | [],_,_,h=>by cases h
 |x::l,l',o,h=>by
  have h:(bif f x then some (x,l)else (pB f l).map fun p=>(p.1,x::p.2))=some (o,l'):=h;cases hb:f x with
  |true=>rw[hb]at h;cases h;exact⟨hb,(zce _ _).symm⟩
  |false =>
   rw[hb]at h;cases hr:pB f l with
   |none=>rw[hr]at h;cases h
   |some p =>
    rw[hr]at h;cases h;obtain⟨h1,h2⟩:=gj (o:=p.1) (l':=p.2) hr;exact⟨h1,h2.cons _⟩
def Gr (x:Nat):SO->Bool|.ul y _ _=>Nat.beq y x|_=>false
def PD (x:Nat):SO->Bool|.bl y _ _=>Nat.beq y x|_=>false
theorem Lu {x:Nat}{o:SO}(h:Gr x o=true):∃c g,o=.ul x c g:=by
 cases o<;>first|(cases h;done)|skip
 have:=ai h;subst this;exact⟨_,_,rfl⟩
def Gq (cf:Cf)(e:TypeId)(d cc g:Nat)(osA:List SO)(len:LE)(u:SV)(s:SS)(K:SS->R):R:=bif Nat.beq (cf.Φ.ty cc) e&&cf.Φ.gv cc then
    (match Bc cf s cc g len u with
     |some (n,_)=>bif bo s ((LE.k (CY cf.P e)).sub (len.add n))&&((len.add n).lt s.nx&&(bJ s.nx g&&osA.all (SO.lt s.nx)))then
      fresh s fun x s=>K (fZ (jR (dm s (osA++[.ul x cc g])) (.a (.len x)) (len.add n)) d (sc (.ref x)))
      else .bad 180 s
     |none=>.bad 181 s)
 else .bad 182 s
def PE (cf:Cf)(ts tx:TypeId)(d:Nat)(v u:SV)(an:An)(s:SS)(K:SS->R):R:=match CZ cf.P ts tx,v,an with
 |some e,.v false [.ab],.ul cc g=>bif pr s g then Gq cf e d cc g s.os (.k 0) u s K else .bad 183 s
 |some e,.v false [.ref x],an=>(match pB (Gr x) s.os with
  |some (.ul _ cc g,osA)=>Gq cf e d cc g osA (.a (.len x)) u s K
  |_=>rA cf ts tx d v u (match an with|.ty cc g=>some (cc,g)|_=>none) s K)
 |_,_,.ty cc g=>rA cf ts tx d v u (some (cc,g)) s K
 |_,_,_=>rA cf ts tx d v u none s K
def HW (cf:Cf)(t:TypeId)(d:Nat)(v u:SV)(an:An)(s:SS)(K:SS->R):R:=match v,u,cf.P.underlying t with
 |.v false [.int k e],.v false [.int k' e'],some (.slice el)=>bif eE k&&(eE k'&&(e.same e'&&(bo s e&&(bo s ((LE.k 16777216).sub e)&&e.lt s.nx))))then
  (match ((zeroOf cf.P el).bind sW).bind dN with
   |some z=>bif Nat.beq z.length (ae cf.P el)&&(Nat.ble (ae cf.P el) 1000&&(Nat.blt 0 (ae cf.P el)&&Nat.ble (cf.P.bytesOf el) 1000000))then
    (match an with
     |.ty cc g=>bif Nat.beq (cf.Φ.ty cc) el&&(cf.Φ.gv cc&&(pr s g&&(bJ s.nx g&&((cf.Φ.ks cc).all Ps&&!cf.Φ.raw cc))))then
      (match pA cf s g (ghost s.gs g) (.k 0) (cf.Φ.ks cc) z with
       |some os=>bif bo s ((LE.k WU).sub (iG os))then fresh s fun x s=>K (fZ (jR (aY s (.sl x cc g)) (.a (.len x)) e) d (sc (.ref x)))else .bad 184 s
       |none=>.bad 185 s)
      else .bad 186 s
     |.bl=>(match z with
      | [.bool (.k false)]=>fresh s fun x s=>K (fZ (jR (jR (dm s (.bl x x el::s.os)) (.a (.len x)) e) (.a (.wt x)) (e.nG 2)) d (sc (.ref x)))
      |_=>.bad 187 s)
     |_=>.bad 188 s)
    else .bad 189 s
   |none=>.bad 190 s)
  else .bad 191 s
 |_,_,_=>.bad 192 s
section
variable {c:Cx}{T:Tm}{G:GH}{Γ:dy}{ρ ρ':aZ}{s s':SS}{cf:Cf}{ops:Array Oper}{i d:Nat}
theorem e7 {l l':List SO}(h:l.Perm l')(ρ:aZ):(l.map (SO.den ρ)).Perm (l'.map (SO.den ρ)):=h.map _
theorem Ep {cl:Call}{ts tx e:TypeId}{ys yx:Operand}{cc g n:Nat}{osA:List SO}{len:LE}{v u:SV}{K:SS->R}(hg:(af ops i).guard=none)(hd:(af ops i).dst=some d)(hlt:d<c.nt)(ho:(af ops i).op=.call cl)(hc:cl.callee=.builtin .append)(ht:cl.argTypes.toList=[ts,tx])(hx:cl.args.toList=[ys,yx])
  (hP:cf.P=c.P) (hΦ:cf.Φ=c.Φ) (rA:CZ c.P ts tx=some e) (h:(Gq cf e d cc g osA len u s K).Ok) (hk:Ok c T G Γ ρ s) (hv:bH c.nt T ys (v.den ρ)) (hu:bH c.nt T yx (u.den ρ)) (hq:Q c T G Γ ⟨(s.den ρ).L,osA.map (SO.den ρ)++[.ul (v.den ρ) cc (ig ρ g) n],(s.den ρ).dQ,(s.den ρ).gs⟩) (hl:len.ev ρ=(n:Int)):Hv c T G Γ ops i s ρ K:=by
 unfold Gq at h;rw[hP,hΦ]at h;cases hb:(Nat.beq (c.Φ.ty cc) e&&c.Φ.gv cc)with
 |false=>rw[hb]at h;cases h
 |true =>
  rw[hb]at h;rw[za]at hb;obtain⟨hb,hun⟩:=hb;have hb:=ai hb;subst hb;simp only[cond_true]at h;cases hsr:Bc cf s cc g len u with
  |none=>rw[hsr]at h;cases h
  |some p =>
   obtain⟨k,w⟩:=p;rw[hsr]at h;simp only at h;cases hf:(bo s ((LE.k (CY c.P (c.Φ.ty cc))).sub (len.add k))&&((len.add k).lt s.nx&&(bJ s.nx g&&osA.all (SO.lt s.nx))))with
   |false=>rw[hf]at h;cases h
   |true =>
    rw[hf]at h;simp only[cond_true]at h;simp only[za]at hf;obtain⟨f1,f2,f3,f4⟩:=hf;obtain⟨h1,⟨e',h2⟩,zz,h3,h4⟩:=yE rA;have h5:=h4;simp only[za]at h5;have hsz:=av h5.2.2;have hJ:n=(len.ev ρ).toNat:=by rw[hl];rfl
    obtain⟨ns,E,k1,k2,k3,k4,k5,k6,k7⟩:=yC hP hΦ hsr hk hJ hsz;have hcap:=ax f1 hk.sat;rw[LE.aw,LE.bz,LE.ib,hl,k3]at hcap;obtain⟨c1,c2⟩:=yD (P:=c.P) (e:=c.Φ.ty cc) (n:=n+ns.length) (by omega) (aK h5.1);obtain⟨E1,x1,x2,x3⟩:=hq.Gq (k:=ns.length) (E2:=E) (osA:=osA.map (SO.den ρ)) (v:=v.den ρ) (cc:=cc) (List.Perm.refl _) k5 k2 (fun j hj=>(k6 j _ (zap hj)).more (k7 hun _ (zdb hj))) c2;refine gm.yw hg hd hlt ho hc ht hx h1 h2 (fun k h=>by cases h) h3 h4 hv hu x1 x2 k1 c1 (zam c2 (by unfold jB;omega)) fun v' G' ha hnf=>?_;obtain⟨Γ',hq'⟩:=x3 G' v' ha;have hown:dO c.P c.Φ G' Γ' (.ul v' cc (ig ρ g) (n+ns.length)):=hq'.own _ (by simp)
    have href:cr v'=true:=by
     rcases hown.2.2 with ⟨h,_⟩|⟨b,cap,size,C,h,_⟩<;>rw[h]<;>rfl
    have hlim:(List.replicate (n+ns.length) 0).length<=jB:=by rw[zai];exact c2
    obtain⟨r1,r2,r3,r4⟩:=aA h hk (.v v' (List.replicate (n+ns.length) 0));have hv':(ρ.up s.nx (.v v' (List.replicate (n+ns.length) 0)) s.nx).vv=v':=by rw[r4];exact U.jl href
    have hn':(ρ.up s.nx (.v v' (List.replicate (n+ns.length) 0)) s.nx).ns.length=n+ns.length:=by rw[r4,U.iw hlim,zai]
    have eD:=(SS.bG (dB h) r2).1;have eO:osA.map (SO.den (ρ.up s.nx (.v v' (List.replicate (n+ns.length) 0))))=osA.map (SO.den ρ):=zav fun o ho=>SO.bG r2 (List.all_eq_true.1 f4 o ho);refine⟨rfl,rfl,Γ',_,_,r1,r2,zan _,?_⟩
    have hbase:Ok c T G' Γ' (ρ.up s.nx (.v v' (List.replicate (n+ns.length) 0))) (dm (aC s) (osA++[.ul s.nx cc g])):=by
     refine⟨⟨r3.sat.fs,r3.sat.bs,r3.sat.pw,r3.sat.ats,r3.sat.cU,r3.sat.ne,r3.sat.fz,r3.sat.sb⟩,?_⟩
     have:(dm (aC s) (osA++[.ul s.nx cc g])).den (ρ.up s.nx (.v v' (List.replicate (n+ns.length) 0)))=⟨(s.den ρ).L,osA.map (SO.den ρ)++[.ul v' cc (ig ρ g) (n+ns.length)],(s.den ρ).dQ,(s.den ρ).gs⟩:=by
      refine St.ext' (by have:=congrArg St.L eD;exact this) ?_ (by have:=congrArg St.dQ eD;exact this) (by have:=congrArg St.gs eD;exact this);show (osA++[SO.ul s.nx cc g]).map (SO.den _)=_;rw[zat,eO,zbj];simp only[SO.den];rw[hv',hn',ba r2 f3]
     rw[this];exact hq'
    have a1:(LE.a (.len s.nx)).ev (ρ.up s.nx (.v v' (List.replicate (n+ns.length) 0)))=(len.add k).ev (ρ.up s.nx (.v v' (List.replicate (n+ns.length) 0))):=by
     rw[LE.bG r2 f2,LE.ib,hl,k3,LE.aQ];show (((ρ.up s.nx (.v v' (List.replicate (n+ns.length) 0)) s.nx).ns.length:Nat):Int)=_;rw[hn'];omega
    have:=(hbase.jR a1).put (v:=sc (.ref s.nx)) d;rw[show (sc (.ref s.nx)).den (ρ.up s.nx (.v v' (List.replicate (n+ns.length) 0)))=v' from hv']at this;exact this
theorem Lv {cl:Call}{ts tx:TypeId}{ys yx:Operand}{v u:SV}{an:An}{K:SS->R}(hg:(af ops i).guard=none)(hd:(af ops i).dst=some d)(hlt:d<c.nt)(ho:(af ops i).op=.call cl)(hc:cl.callee=.builtin .append)(ht:cl.argTypes.toList=[ts,tx])(hx:cl.args.toList=[ys,yx])
  (hP:cf.P=c.P) (hΦ:cf.Φ=c.Φ) (h:(PE cf ts tx d v u an s K).Ok) (hk:Ok c T G Γ ρ s) (hv:bH c.nt T ys (v.den ρ)) (hu:bH c.nt T yx (u.den ρ)):Hv c T G Γ ops i s ρ K:=by
 unfold PE at h;split at h
 ·rename_i e cc g rA;rw[hP]at rA;cases hgi:pr s g with
  |false=>rw[hgi]at h;cases h
  |true =>
   rw[hgi]at h;refine Ep (v:=.v false [.ab]) (n:=0) hg hd hlt ho hc ht hx hP hΦ rA h hk hv hu ?_ (by rw[LE.bz];rfl);have q:=hk.q;refine⟨q.ml,q.at_,q.uB,q.rl,q.grow,fun o ho=>?_,fun o ho b hb=>?_,?_,q.ht,q.ty,q.gs⟩
   ·rcases List.mem_append.1 ho with ho|ho
    ·exact q.own o ho
    ·rw[List.mem_singleton.1 ho];exact⟨gJ hgi hk,zbl _,.inl ⟨rfl,rfl⟩⟩
   ·rcases List.mem_append.1 ho with ho|ho
    ·exact q.new o ho b hb
    ·rw[List.mem_singleton.1 ho]at hb;cases hb
   ·show (cm (_++[Own.ul .ab cc (ig ρ g) 0])).Nodup;rw[fg];have:cm [Own.ul .ab cc (ig ρ g) 0]=[]:=rfl;rw[this,zbg];exact q.nd
 ·rename_i an' e x rA;rw[hP]at rA;split at h
  ·rename_i y cc g osA hr;obtain⟨r1,r2⟩:=gj hr;obtain⟨c',g',e0⟩:=Lu r1;cases e0;refine Ep (v:=.v false [.ref x]) (n:=(ρ x).ns.length) hg hd hlt ho hc ht hx hP hΦ rA h hk hv hu ?_ (by rw[LE.aQ];rfl);refine hk.q.iq (fun _ _ h=>h) ⟨[],?_⟩ (fun f h=>h) (fun p h=>h);have:=e7 r2 ρ;rw[zat,zbj]at this;rw[zbg];exact this
  ·exact C3 hg hd hlt ho hc ht hx hP hΦ h hk hv hu
 ·exact C3 hg hd hlt ho hc ht hx hP hΦ h hk hv hu
 ·exact C3 hg hd hlt ho hc ht hx hP hΦ h hk hv hu
theorem Bh {l:List AV}{n j sz:Nat}(hl:l.length=sz)(hj:j<n):((fS n l).drop (j*sz)).take sz=l:=by
 induction n generalizing j with
 |zero=>omega
 |succ n ih =>
  have e:fS (n+1) l=l++fS n l:=rfl;rw[e];cases j with
  |zero=>rw[zbw,zc,<-hl,List.take_left]
  |succ j=>rw[zax,Nat.add_comm,<-zcq,<-hl,List.drop_left,hl];exact ih (by omega)
theorem Je {t:TypeId}{yl yc:Operand}{v u:SV}{an:An}{K:SS->R}(ho:(af ops i).op=.makeSlice t yl yc)(hg:(af ops i).guard=none)(hd:(af ops i).dst=some d)(hlt:d<c.nt)(hP:cf.P=c.P)(hΦ:cf.Φ=c.Φ)(h:(HW cf t d v u an s K).Ok)(hk:Ok c T G Γ ρ s)(hv:bH c.nt T yl (v.den ρ))(hu:bH c.nt T yc (u.den ρ)):Hv c T G Γ ops i s ρ K:=by
 unfold HW at h;rw[hP,hΦ]at h;split at h
 ·rename_i k e k' e' el hun;cases hb:(eE k&&(eE k'&&(e.same e'&&(bo s e&&(bo s ((LE.k 16777216).sub e)&&e.lt s.nx)))))with
  |false=>rw[hb]at h;cases h
  |true =>
   rw[hb]at h;simp only[cond_true]at h;simp only[za]at hb;obtain⟨b1,b2,b3,b4,b5,b6⟩:=hb;have b1:=dT b1;have b2:=dT b2;subst b1 b2;have e1:=ax b4 hk.sat;have e2:=ax b5 hk.sat;rw[LE.aw,LE.bz]at e2;have e3:=LE.aN b3 ρ
   have hv:bH c.nt T yl (.int .i64 (.ofNat (e.ev ρ).toNat)):=by
    have:(SV.v false [.int .i64 e]).den ρ=.int .i64 (.ofNat (e.ev ρ).toNat):=by show AV.int .i64 (e.ev ρ)=_;congr 1;exact (zbp e1).symm
    rw[<-this];exact hv
   have hu:bH c.nt T yc (.int .i64 (.ofNat (e.ev ρ).toNat)):=by
    have:(SV.v false [.int .i64 e']).den ρ=.int .i64 (.ofNat (e.ev ρ).toNat):=by show AV.int .i64 (e'.ev ρ)=_;rw[<-e3];congr 1;exact (zbp e1).symm
    rw[<-this];exact hu
   split at h
   ·rename_i z hz;cases hzz:zeroOf c.P el with
    |none=>rw[hzz]at hz;cases hz
    |some zz =>
     rw[hzz]at hz;simp only[zcb]at hz;cases hv0:sW zz with
     |none=>rw[hv0]at hz;cases hz
     |some w =>
      rw[hv0]at hz;have hz:dN w=some z:=hz;have z1:zz.cells=aB ρ z:=by rw[<-jc hv0 ρ];exact fy hz ρ
      have z1l:zz.cells.length=z.length:=by rw[z1];simp[aB]
      cases hb7:(Nat.beq z.length (ae c.P el)&&(Nat.ble (ae c.P el) 1000&&(Nat.blt 0 (ae c.P el)&&Nat.ble (c.P.bytesOf el) 1000000)))with
      |false=>rw[hb7]at h;cases h
      |true =>
       rw[hb7]at h;simp only[cond_true]at h;have hgz:(Nat.beq zz.cells.length (ae c.P el)&&(Nat.ble (ae c.P el) 1000&&(Nat.blt 0 (ae c.P el)&&Nat.ble (c.P.bytesOf el) 1000000)))=true:=by rw[z1l];exact hb7
       have hzl:zz.cells.length=ae c.P el:=by rw[z1l];simp only[za]at hb7;exact ai hb7.1
       have hlim:(e.ev ρ).toNat<=jB:=by unfold jB;omega
       have hrl:(fS (e.ev ρ).toNat zz.cells).length=(e.ev ρ).toNat*ae c.P el:=by rw[fN,hzl]
       split at h
       ·rename_i cc g;cases hb8:(Nat.beq (c.Φ.ty cc) el&&(c.Φ.gv cc&&(pr s g&&(bJ s.nx g&&((c.Φ.ks cc).all Ps&&!c.Φ.raw cc)))))with
        |false=>rw[hb8]at h;cases h
        |true =>
         rw[hb8]at h;simp only[cond_true]at h;simp only[za,zaj]at hb8;obtain⟨d1,d2,d3,d4,d5,hrw⟩:=hb8;have d1:=ai d1;subst d1;cases hch:pA cf s g (ghost s.gs g) (.k 0) (c.Φ.ks cc) z with
         |none=>rw[hch]at h;cases h
         |some os =>
          rw[hch]at h;simp only at h;cases hw:bo s ((LE.k WU).sub (iG os))with
          |false=>rw[hw]at h;cases h
          |true =>
           rw[hw]at h;simp only[cond_true]at h;obtain⟨fs,w1,w2,w3⟩:=mh hΦ hk (fun dv h=>cR h hk) (J:=0) (by rw[LE.bz];exact⟨zch _,rfl⟩) hch;have hwu:=ax hw hk.sat;rw[LE.aw,LE.bz,w2]at hwu;rw[<-z1]at w1;refine gm.Jb hg hd hlt ho hun hzz hgz hv hu (by omega) (by rw[z1];exact fp _ _) fun b hb hb'=>⟨rfl,rfl,?_⟩
           have hq:=hk.q.Ln (cc:=cc) (g:=ig ρ g) (L:=List.replicate (e.ev ρ).toNat WU) (size:=(e.ev ρ).toNat*ae c.P (c.Φ.ty cc)) (C:=fS (e.ev ρ).toNat zz.cells) (tys':=[.sl (.cN b 0 (e.ev ρ).toNat (e.ev ρ).toNat) cc (ig ρ g) (List.replicate (e.ev ρ).toNat WU)]) hb hb' (gJ d3 hk) hrw (fun _ m hm=>zbs hm) (by rw[hrl,zai]) (fun j m hj=>by
             have hm:=zbs (zba hj);have hjl:=(List.getElem?_eq_some_iff.1 hj).1;rw[zai]at hjl;rw[Bh hzl hjl,hm];exact⟨fs,n6 d5 w1,by omega,w3⟩) (fun f hf=>by
             rw[List.mem_singleton.1 hf]
             exact⟨by rw[zai];exact hlim,.inr (.inr ⟨b,(e.ev ρ).toNat,_,_,_,by rw[zai],updΓ_same _ _ _,(zcj).symm,au _ _ _,zad _,by rw[zai];exact zad _⟩)⟩)
           obtain⟨r1,r2,r3,r4⟩:=aA h hk (.v (.cN b 0 (e.ev ρ).toNat (e.ev ρ).toNat) (List.replicate (e.ev ρ).toNat WU));generalize hU:U.v (.cN b 0 (e.ev ρ).toNat (e.ev ρ).toNat) (List.replicate (e.ev ρ).toNat WU)=uu at r1 r2 r3 r4;have hv':(ρ.up s.nx uu s.nx).vv=.cN b 0 (e.ev ρ).toNat (e.ev ρ).toNat:=by rw[r4,<-hU];rfl
           have hn':(ρ.up s.nx uu s.nx).ns=List.replicate (e.ev ρ).toNat WU:=by rw[r4,<-hU];exact U.iw (by rw[zai];exact hlim)
           have eD:=(SS.bG (dB h) r2).1;refine⟨updΓ Γ b (.cells cc (ig ρ g) (List.replicate (e.ev ρ).toNat WU)),ρ.up s.nx uu,_,r1,r2,zan _,?_⟩
           have ok1:Ok c T (dj G b (.cells .data (c.Φ.ty cc) ((e.ev ρ).toNat*ae c.P (c.Φ.ty cc)) (fS (e.ev ρ).toNat zz.cells))) (updΓ Γ b (.cells cc (ig ρ g) (List.replicate (e.ev ρ).toNat WU))) (ρ.up s.nx uu) (aY (aC s) (.sl s.nx cc g)):=⟨⟨r3.sat.fs,r3.sat.bs,r3.sat.pw,r3.sat.ats,r3.sat.cU,r3.sat.ne,r3.sat.fz,r3.sat.sb⟩,by
            have:(aY (aC s) (.sl s.nx cc g)).den (ρ.up s.nx uu)=⟨(s.den ρ).L,(s.den ρ).os,.sl (.cN b 0 (e.ev ρ).toNat (e.ev ρ).toNat) cc (ig ρ g) (List.replicate (e.ev ρ).toNat WU)::(s.den ρ).dQ,(s.den ρ).gs⟩:=by
             refine St.ext' (by have:=congrArg St.L eD;exact this) (by have:=congrArg St.os eD;exact this) ?_ (by have:=congrArg St.gs eD;exact this);show c6.den _ (.sl s.nx cc g)::s.ty.map (c6.den _)=_;rw[show s.ty.map (c6.den (ρ.up s.nx uu))=(s.den ρ).dQ from congrArg St.dQ eD];simp only[c6.den];rw[hv',hn',ba r2 d4]
            rw[this];exact hq⟩
           have:=(ok1.jR (a:=.a (.len s.nx)) (b:=e) (by
            rw[LE.aQ,LE.bG r2 b6];show (((ρ.up s.nx uu s.nx).ns.length:Nat):Int)=_
            rw[hn',zai];omega)).put (v:=sc (.ref s.nx)) d
           rw[show (sc (.ref s.nx)).den (ρ.up s.nx uu)=.cN b 0 (e.ev ρ).toNat (e.ev ρ).toNat from hv']at this;exact this
       ·split at h
        ·have z2:zz.cells=[.bool false]:=z1;rw[z2]at hzl hrl;have hzl:1=ae c.P el:=hzl;refine gm.Jb hg hd hlt ho hun hzz hgz hv hu (by omega) (by rw[z1];exact fp _ _) fun b hb hb'=>⟨rfl,rfl,?_⟩;rw[z2]
         have hC:fS (e.ev ρ).toNat [AV.bool false]=(List.replicate (e.ev ρ).toNat 1).map (fun m=>AV.bool (Nat.beq m 0)):=by
          generalize (e.ev ρ).toNat=n
          induction n with
          |zero=>rfl
          |succ n ih=>show AV.bool false::fS n [AV.bool false]=_;rw[ih];rfl
         have hq:=hk.q.A7 (g:=.cells .data el ((e.ev ρ).toNat*ae c.P el) (fS (e.ev ρ).toNat [AV.bool false])) hb hb' (.bl (.cN b 0 (e.ev ρ).toNat (e.ev ρ).toNat) el (List.replicate (e.ev ρ).toNat 1)) rfl ⟨by rw[zai];exact hlim,fun m hm=>by rw[zbs hm];exact zad _,b,(e.ev ρ).toNat*ae c.P el,by rw[zai],hk.q.ht.none hb',by rw[au,hC]⟩;obtain⟨r1,r2,r3,r4⟩:=aA h hk (.v (.cN b 0 (e.ev ρ).toNat (e.ev ρ).toNat) (List.replicate (e.ev ρ).toNat 1));generalize hU:U.v (.cN b 0 (e.ev ρ).toNat (e.ev ρ).toNat) (List.replicate (e.ev ρ).toNat 1)=uu at r1 r2 r3 r4;have hv':(ρ.up s.nx uu s.nx).vv=.cN b 0 (e.ev ρ).toNat (e.ev ρ).toNat:=by rw[r4,<-hU];rfl
         have hn':(ρ.up s.nx uu s.nx).ns=List.replicate (e.ev ρ).toNat 1:=by rw[r4,<-hU];exact U.iw (by rw[zai];exact hlim)
         have eD:=(SS.bG (dB h) r2).1;refine⟨Γ,ρ.up s.nx uu,_,r1,r2,zan _,?_⟩
         have ok1:Ok c T (dj G b (.cells .data el ((e.ev ρ).toNat*ae c.P el) (fS (e.ev ρ).toNat [AV.bool false]))) Γ (ρ.up s.nx uu) (dm (aC s) (.bl s.nx s.nx el::s.os)):=⟨⟨r3.sat.fs,r3.sat.bs,r3.sat.pw,r3.sat.ats,r3.sat.cU,r3.sat.ne,r3.sat.fz,r3.sat.sb⟩,by
          have:(dm (aC s) (.bl s.nx s.nx el::s.os)).den (ρ.up s.nx uu)=⟨(s.den ρ).L,.bl (.cN b 0 (e.ev ρ).toNat (e.ev ρ).toNat) el (List.replicate (e.ev ρ).toNat 1)::(s.den ρ).os,(s.den ρ).dQ,(s.den ρ).gs⟩:=by
           refine St.ext' (by have:=congrArg St.L eD;exact this) ?_ (by have:=congrArg St.dQ eD;exact this) (by have:=congrArg St.gs eD;exact this);show SO.den _ (.bl s.nx s.nx el)::s.os.map (SO.den _)=_;rw[show s.os.map (SO.den (ρ.up s.nx uu))=(s.den ρ).os from congrArg St.os eD];simp only[SO.den];rw[hv',hn']
          rw[this];exact hq⟩
         have:=((ok1.jR (a:=.a (.len s.nx)) (b:=e) (by
          rw[LE.aQ,LE.bG r2 b6];show (((ρ.up s.nx uu s.nx).ns.length:Nat):Int)=_
          rw[hn',zai];omega)).jR (a:=.a (.wt s.nx)) (b:=e.nG 2) (by
          rw[LE.aQ,LE.iM,LE.bG r2 b6];show (((ρ.up s.nx uu s.nx).ns.sum+(ρ.up s.nx uu s.nx).ns.length:Nat):Int)=_
          rw[hn',zai,List.sum_replicate_nat];omega)).put (v:=sc (.ref s.nx)) d
         rw[show (sc (.ref s.nx)).den (ρ.up s.nx uu)=.cN b 0 (e.ev ρ).toNat (e.ev ρ).toNat from hv']at this;exact this
        ·cases h
       ·cases h
   ·cases h
 ·cases h
end
end Go.Rd
namespace Go.Rd
open Go.aI Go.RowKit Go.Rt
def Vs (cf:Cf)(t:TypeId)(cc g:Nat)(e:LE)(o:Nat)(v:SV)(s:SS)(K:SS->R):R:=match dN v with
 |some l=>bif cf.Φ.gv cc&&((cf.P.info? t).isSome&&(Nat.beq (ae cf.P t) l.length&&Nat.ble (o+l.length) (cf.Φ.ks cc).length))then
  (match pA cf s g (ghost s.gs g) e (((cf.Φ.ks cc).drop o).take l.length) l with
   |some os=>bif Gi s os o l.length (cf.Φ.ks cc).length then K s else .bad 200 s
   |none=>.bad 201 s)
  else .bad 202 s
 |none=>.bad 203 s
def UG (s:SS)(m:Nat)(e:LE):Nat:=match A3 s.pw m e,A3 s.pw m (e.bk 1)with
 |some p,some q=>bif q.same (p.bk 2)then 1 else 0
 |_,_=>0
def Vt (cf:Cf)(t:TypeId)(y m:Nat)(el:TypeId)(osA:List SO)(e:LE)(v:SV)(s:SS)(K:SS->R):R:=match v with
 |.v false [.bool (.k true)]=>bif (cf.P.info? t).isSome&&(Nat.beq (ae cf.P t) 1&&(osA.all (SO.lt s.nx)&&(Nat.blt y s.nx&&Nat.blt m s.nx)))then
  fresh s fun x s'=>K (aP (jR (dm s' (osA++[.bl y x el])) (.a (.len x)) (.a (.len m))) (((LE.a (.wt m)).sub (.a (.wt x))).bk (-(UG s m e:Nat))))
  else .bad 204 s
 |_=>.bad 205 s
def PF (cf:Cf)(t:TypeId)(x v:SV)(s:SS)(K:SS->R):R:=match x with
 |.v false [.oB y e sz o]=>(match pB (fun w=>Gr y w||PD y w) s.os with
  |some (.ul _ cc g,osA)=>bif yZ s (.ul cc g) y e&&Nat.beq sz (ae cf.P (cf.Φ.ty cc))then Vs cf t cc g e o v s K else .bad 206 s
  |some (.bl _ m el,osA)=>bif yZ s (.bl m el) y e&&(Nat.beq sz 1&&Nat.beq o 0)then Vt cf t y m el osA e v s K else .bad 207 s
  |_=>TC cf t x v s K)
 |_=>TC cf t x v s K
section
variable {c:Cx}{T:Tm}{G:GH}{Γ:dy}{ρ ρ':aZ}{s s':SS}{cf:Cf}{ops:Array Oper}{i d:Nat}
theorem Er {w:I9}{y:Nat}{e:LE}(hw:w.so y∈s.os)(h:yZ s w y e=true)(hk:Ok c T G Γ ρ s):0<=e.ev ρ/\(e.ev ρ).toNat<(ρ (w.ln y)).ns.length:=by
 unfold yZ at h;rw[za]at h;have e1:=ax h.1 hk.sat;have e2:=ax h.2 hk.sat;rw[LE.aO,LE.aw,LE.aQ]at e2;have e2:0<=((ρ (w.ln y)).ns.length:Int)-e.ev ρ+-1:=e2;exact⟨e1,by omega⟩
theorem Es:∀{l:List Nat}{k:Nat}(h:k<l.length),(l.set k 0).sum+l[k]=l.sum
 |a::l,0,_=>by simp;omega
 |a::l,k+1,h=>by
  have:=Es (l:=l) (k:=k) (by simpa using h);simp only[List.set_cons_succ,zd,List.getElem_cons_succ];omega
theorem PG {m:Nat}{e:LE}(hs:Sat ρ s)(he:0<=e.ev ρ)(hlt:(e.ev ρ).toNat<(ρ m).ns.length):UG s m e<=(ρ m).ns[(e.ev ρ).toNat]:=by
 unfold UG;split
 ·rename_i p q h1 h2;cases hb:q.same (p.bk 2)with
  |false=>exact zbl _
  |true =>
   show 1<=_;obtain⟨e1,m1,m2⟩:=tk h1;obtain⟨e2,m3,m4⟩:=tk h2;have a1:=(hs.pw _ m1).2;have a2:=(hs.pw _ m3).2;have a1:((((ρ m).ns.take (e1.ev ρ).toNat).sum:Nat):Int)+e1.ev ρ=p.ev ρ:=a1;have a2:((((ρ m).ns.take (e2.ev ρ).toNat).sum:Nat):Int)+e2.ev ρ=q.ev ρ:=a2;rw[m2 ρ]at a1;rw[m4 ρ,LE.aO,LE.aN hb ρ,LE.aO,show (e.ev ρ+1).toNat=(e.ev ρ).toNat+1 by omega]at a2
   have hsum:((ρ m).ns.take ((e.ev ρ).toNat+1)).sum=((ρ m).ns.take (e.ev ρ).toNat).sum+(ρ m).ns[(e.ev ρ).toNat]:=by
    rw[List.take_add_one,zap hlt,zdv];simp
   omega
 ·exact zbl _
theorem Lw {t:TypeId}{x:Nat}{y:Operand}{u v:SV}{K:SS->R}(ho:(af ops i).op=.store t (.tmp x) y)(hg:(af ops i).guard=none)(hd:(af ops i).dst=none)(hP:cf.P=c.P)(hΦ:cf.Φ=c.Φ)(h:(PF cf t u v s K).Ok)(hk:Ok c T G Γ ρ s)(hx:T.at x=u.den ρ)(hy:bH c.nt T y (v.den ρ)):Hv c T G Γ ops i s ρ K:=by
 unfold PF at h;split at h
 ·rename_i q e sz o;split at h
  ·rename_i q' cc g osA hr;obtain⟨r1,r2⟩:=gj hr
   have hq':q'=q:=by
    have r1:(Gr q (.ul q' cc g)||false)=true:=r1;rw[Bool.or_false]at r1;exact ai r1
   subst hq';rw[hP,hΦ]at h;cases hb:(yZ s (.ul cc g) q' e&&Nat.beq sz (ae c.P (c.Φ.ty cc)))with
   |false=>rw[hb]at h;cases h
   |true =>
    rw[hb]at h;simp only[cond_true]at h;rw[za]at hb;have hmem:SO.ul q' cc g∈s.os:=r2.mem_iff.2 (by simp);obtain⟨a1,a2⟩:=Er (w:=.ul cc g) hmem hb.1 hk;have a2:(e.ev ρ).toNat<(ρ q').ns.length:=a2;have hsz:=ai hb.2;subst hsz;unfold Vs at h;rw[hP,hΦ]at h;cases hc:dN v with
    |none=>rw[hc]at h;cases h
    |some l =>
     rw[hc]at h;simp only at h;cases hb1:(c.Φ.gv cc&&((c.P.info? t).isSome&&(Nat.beq (ae c.P t) l.length&&Nat.ble (o+l.length) (c.Φ.ks cc).length)))with
     |false=>rw[hb1]at h;cases h
     |true =>
      rw[hb1]at h;simp only[cond_true]at h;simp only[za]at hb1;obtain⟨b1,b2,b3,b4⟩:=hb1;have b3:=ai b3;have b4:=aK b4;cases kM:pA cf s g (ghost s.gs g) e (((c.Φ.ks cc).drop o).take l.length) l with
      |none=>rw[kM]at h;cases h
      |some os =>
       rw[kM]at h;simp only at h;cases hos:Gi s os o l.length (c.Φ.ks cc).length with
       |false=>rw[hos]at h;cases h
       |true =>
        rw[hos]at h;have h:(K s).Ok:=h;have hos:=Eh hos hk.sat;have hown:=hk.own hmem;obtain⟨o1,o2,o3⟩:_/\_/\_:=hown;rcases o3 with ⟨_,h0⟩|⟨b,cap,size,C,k1,k2,k3,k4,k5,k6,k7⟩
        ·have h0:(ρ q').ns.length=0:=h0;omega
        ·have k4:C.length=(ρ q').ns.length*ae c.P (c.Φ.ty cc):=k4;have k7:∀j,j<(ρ q').ns.length->eT c.P c.Φ G Γ WU cc (ig ρ g) j ((C.drop (j*ae c.P (c.Φ.ty cc))).take (ae c.P (c.Φ.ty cc))):=k7;have e2:=fy hc ρ;have hll:(aB ρ l).length=l.length:=by simp[aB]
         obtain⟨fl,c1,c2,c3⟩:=mh hΦ hk (fun dv h=>cR h hk) ⟨a1,rfl⟩ kM;have h1:((e.ev ρ).toNat+1)*ae c.P (c.Φ.ty cc)<=(ρ q').ns.length*ae c.P (c.Φ.ty cc):=zae _ a2;rw[zax]at h1;obtain⟨fs0,w1,w2,w3⟩:=k7 _ a2
         have hks:(c.Φ.ks cc).length=ae c.P (c.Φ.ty cc):=by
          rw[<-w1.len,zaf,zas];omega
         have hx':T.at x=.cu b ((e.ev ρ).toNat*ae c.P (c.Φ.ty cc)+o):=hx.trans (kr k1);have hfit:(e.ev ρ).toNat*ae c.P (c.Φ.ty cc)+o+l.length<=C.length:=by omega
         refine gm.xY (fun e=>by cases e) hg hd ho hx' hy b2 rfl (by rw[e2,hll,b3]) (by rw[e2];exact rH _ _) (by rw[e2];exact fp _ _) k3 (by rw[b3];exact hfit) ⟨rfl,rfl,Γ,ρ,s,h,cM.refl _ _,zad _,hk.sat,?_⟩;rw[e2,Ba];have hpd:=e7 r2 ρ;rw[zat,zbj]at hpd
         have hQ:=hk.q.A8 (b:=b) (G':=dj G b (.cells .data (c.Φ.ty cc) size (rv ((e.ev ρ).toNat*ae c.P (c.Φ.ty cc)+o) (aB ρ l) C))) (Γ':=Γ) (osA:=osA.map (SO.den ρ)) (o:=SO.den ρ (.ul q' cc g)) (o':=SO.den ρ (.ul q' cc g)) (tys':=[]) hpd (dG (.inl (by rw[k3];rfl))) (fun _ _=>rfl) (fun k h=>aV h) (by rw[au];rfl)
          (fun _ _ _ h=>by rw[k3]at h;cases h) (fun _ _ _ h=>by rw[k3]at h;cases h;exact⟨_,au _ _ _⟩) (fun x h=>by rw[k2]at h;cases h) rfl rfl (.inl (by show qE (ρ q').vv=_;rw[k1];rfl)) (by show qE (ρ q').vv=_;rw[k1];rfl) (fun x _ _ h=>by rw[k2]at h;cases h)
          (fun hr' hl'=>⟨o1,o2,.inr ⟨b,cap,size,_,k1,k2,au _ _ _,by rw[th (by rw[hll];exact hfit)];exact k4,k5,k6,fun j hj=>by
           rw[I1 k4 a2 (by rw[hll];omega)];by_cases ek:j=(e.ev ρ).toNat
           ·subst ek;rw[if_pos rfl];obtain⟨fs',p1,p2,p3,p4⟩:=Eg (o:=o) w1 (l:=aB ρ l) (by rw[hll];exact c1) (by rw[hll];exact b4);refine eT.le ⟨fs',p1,?_,fun f hf=>(p3 f hf).elim (w3 f) (c3 f)⟩ hr' hl' o1;rcases hos with rfl|⟨ho0,hlk,hW⟩
            ·rw[iG,LE.bz]at c2;have:iO c.Φ fl=0:=by omega
             omega
            ·have:=p4 ⟨ho0,by rw[hll];exact hlk⟩;rw[this];omega
           ·rw[if_neg ek]
            exact (k7 j hj).le hr' hl' o1⟩⟩) (fun f h=>by cases h)
         exact hQ.iq (fun _ _ h=>h) ⟨[],by rw[zbg];exact hpd.symm⟩ (fun f h=>h) (fun p h=>h)
  ·rename_i q' m el osA hr;obtain⟨r1,r2⟩:=gj hr
   have hq':q'=q:=by
    have r1:(false||PD q (.bl q' m el))=true:=r1;rw[zcp]at r1;exact ai r1
   subst hq';cases hb:(yZ s (.bl m el) q' e&&(Nat.beq sz 1&&Nat.beq o 0))with
   |false=>rw[hb]at h;cases h
   |true =>
    rw[hb]at h;simp only[cond_true]at h;simp only[za]at hb;have hmem:SO.bl q' m el∈s.os:=r2.mem_iff.2 (by simp);obtain⟨a1,a2⟩:=Er (w:=.bl m el) hmem hb.1 hk;have a2:(e.ev ρ).toNat<(ρ m).ns.length:=a2;have h1:=ai hb.2.1;have h2:=ai hb.2.2;subst h1 h2;unfold Vt at h;rw[hP]at h;split at h
    ·cases hb1:((c.P.info? t).isSome&&(Nat.beq (ae c.P t) 1&&(osA.all (SO.lt s.nx)&&(Nat.blt q' s.nx&&Nat.blt m s.nx))))with
     |false=>rw[hb1]at h;cases h
     |true =>
      rw[hb1]at h;simp only[cond_true]at h;simp only[za]at hb1;obtain⟨b1,b2,b3,b4,b5⟩:=hb1;have b2:=ai b2;have hown:=hk.own hmem;obtain⟨o1,o2,b,size,k1,k2,k3⟩:=hown;have hx':T.at x=.cu b (e.ev ρ).toNat:=(hx.trans (kr k1)).trans (by rw[zeq,zbu]);have hone:((SV.v false [SC.bool (.k true)]).den ρ).cells=[.bool true]:=rfl;refine gm.xY (fun e=>by cases e) hg hd ho hx' hy b1 rfl (by rw[hone,b2];rfl) rfl (by rw[hone];exact hY (lX _) jt) k3 (by rw[b2,zcw];omega) ⟨rfl,rfl,Γ,?_⟩;rw[hone]
      have hput:vu ((ρ m).ns.map (fun m=>AV.bool (Nat.beq m 0))) (e.ev ρ).toNat [.bool true]=((ρ m).ns.set (e.ev ρ).toNat 0).map (fun m=>AV.bool (Nat.beq m 0)):=by
       rw[List.map_set];have hl:(e.ev ρ).toNat<((ρ m).ns.map (fun m=>AV.bool (Nat.beq m 0))).length:=by rw[zcw];exact a2
       rw[List.set_eq_take_append_cons_drop,if_pos hl];show _++[_]++_=_;rw[zbc];rfl
      rw[hput];have hlim:((ρ m).ns.set (e.ev ρ).toNat 0).length<=jB:=by rw[zej];exact o1
      obtain⟨p1,p2,p3,p4⟩:=aA h hk (.v .ab ((ρ m).ns.set (e.ev ρ).toNat 0));generalize hU:U.v .ab ((ρ m).ns.set (e.ev ρ).toNat 0)=uu at p1 p2 p3 p4;have hn':(ρ.up s.nx uu s.nx).ns=(ρ m).ns.set (e.ev ρ).toNat 0:=by rw[p4,<-hU];exact U.iw hlim
      have eD:=(SS.bG (dB h) p2).1;have hpd:=e7 r2 ρ;rw[zat,zbj]at hpd
      have hQ:=hk.q.A8 (b:=b) (G':=dj G b (.cells .data el size (((ρ m).ns.set (e.ev ρ).toNat 0).map (fun m=>AV.bool (Nat.beq m 0))))) (Γ':=Γ) (osA:=osA.map (SO.den ρ)) (o:=SO.den ρ (.bl q' m el)) (o':=.bl (ρ q').vv el ((ρ m).ns.set (e.ev ρ).toNat 0)) (tys':=[]) hpd (dG (.inl (by rw[k3];rfl))) (fun _ _=>rfl) (fun k h=>aV h) (by rw[au];rfl)
       (fun _ _ _ h=>by rw[k3]at h;cases h) (fun _ _ _ h=>by rw[k3]at h;cases h;exact⟨_,au _ _ _⟩) (fun x h=>by rw[k2]at h;cases h) rfl rfl (.inl (by show qE (ρ q').vv=_;rw[k1];rfl)) (by show qE (ρ q').vv=_;rw[k1];rfl) (fun x _ _ h=>by rw[k2]at h;cases h)
       (fun hr' hl'=>⟨hlim,fun z hz=>by
        rcases List.mem_or_eq_of_mem_set hz with hz|rfl
        ·exact o2 z hz
        ·exact zbl _,b,size,by rw[zej];exact k1,k2,au _ _ _⟩) (fun f h=>by cases h)
      refine⟨ρ.up s.nx uu,_,p1,p2,zan _,?_⟩;have eO:osA.map (SO.den (ρ.up s.nx uu))=osA.map (SO.den ρ):=zav fun o ho=>SO.bG p2 (List.all_eq_true.1 b3 o ho)
      have hbase:Ok c T (dj G b (.cells .data el size (((ρ m).ns.set (e.ev ρ).toNat 0).map (fun m=>AV.bool (Nat.beq m 0))))) Γ (ρ.up s.nx uu) (dm (aC s) (osA++[.bl q' s.nx el])):=by
       refine⟨⟨p3.sat.fs,p3.sat.bs,p3.sat.pw,p3.sat.ats,p3.sat.cU,p3.sat.ne,p3.sat.fz,p3.sat.sb⟩,?_⟩
       have:(dm (aC s) (osA++[.bl q' s.nx el])).den (ρ.up s.nx uu)=⟨(s.den ρ).L,osA.map (SO.den ρ)++[.bl (ρ q').vv el ((ρ m).ns.set (e.ev ρ).toNat 0)],(s.den ρ).dQ,(s.den ρ).gs⟩:=by
        refine St.ext' (by have:=congrArg St.L eD;exact this) ?_ (by have:=congrArg St.dQ eD;exact this) (by have:=congrArg St.gs eD;exact this);show (osA++[SO.bl q' s.nx el]).map (SO.den _)=_;rw[zat,eO,zbj];simp only[SO.den];rw[hn',p2 q' (av b4)]
       rw[this];exact hQ.iq (fun _ _ h=>h) ⟨[],by rw[zbg]⟩ (fun f h=>h) (fun p h=>h)
      have hm2:=p2 m (av b5);refine (hbase.jR ?_).aP ?_
      ·rw[LE.aQ,LE.aQ];show (((ρ.up s.nx uu s.nx).ns.length:Nat):Int)=(((ρ.up s.nx uu m).ns.length:Nat):Int);rw[hn',hm2,zej]
      ·rw[LE.aO,LE.aw,LE.aQ,LE.aQ];show 0<=(((ρ.up s.nx uu m).ns.sum+(ρ.up s.nx uu m).ns.length:Nat):Int)-(((ρ.up s.nx uu s.nx).ns.sum+(ρ.up s.nx uu s.nx).ns.length:Nat):Int)+_;rw[hn',hm2,zej];have h5:=Es a2;have h6:=PG (s:=s) (m:=m) (e:=e) hk.sat a1 a2;omega
    ·cases h
  ·exact I3 ho hg hd hP hΦ h hk hx hy
 ·exact I3 ho hg hd hP hΦ h hk hx hy
end
end Go.Rd
namespace Go.Rd
open Go.aI Go.RowKit Go.Rt
theorem wU {k v:AV}:∀{es:List (AV×AV)}{p:AV×AV},p∈ez k v es->p∈es∨(p.2=v/\(p.1=k∨aW k p.1=true))
 | [],p,h=>by rw[List.mem_singleton.1 h];exact .inr ⟨rfl,.inl rfl⟩
 |q::es,p,h=>by
  have h:p∈(bif aW k q.1 then (q.1,v)::es else q::ez k v es):=h;cases hb:aW k q.1 with
  |true =>
   rw[hb]at h;rcases List.mem_cons.1 h with rfl|h
   ·exact .inr ⟨rfl,.inr hb⟩
   ·exact .inl (zaa _ h)
  |false =>
   rw[hb]at h;rcases List.mem_cons.1 h with rfl|h
   ·exact .inl (zac ..)
   ·exact (wU h).imp_left (zaa _)
theorem Gs {k v:AV}{es:List (AV×AV)}:es.length<=(ez k v es).length/\(ez k v es).length<=es.length+1:=by
 cases h:bD k es with
 |none=>rw[nE h,zak];simp
 |some v0=>rw[qD h];omega
theorem C5 {a b:Gd}(h:a.Le b){v:AV}{j:Nat}(e:po a v=some j):po b v=some j:=by
 unfold po at e ⊢;split at e
 ·exact h.at_ _ _ _ e
 ·exact h.wn _ _ e
 ·cases e
theorem qJ {pk:KK}{x k:AV}(hx:cK pk x)(hk:cK pk k)(h:aW x k=true):∀{es:List (AV×AV)},(∀p∈es,cK pk p.1)->bD x es=bD k es
 | [],_=>rfl
 |p::es,h0=>by
  show (bif aW x p.1 then some p.2 else bD x es)=(bif aW k p.1 then some p.2 else bD k es);rw[j8 hx hk (h0 p (zac ..)) h,qJ hx hk h fun q hq=>h0 q (zaa _ hq)]
def UH (b:Nat):SO->Bool|.im y _=>Nat.beq y b|.am y _ _=>Nat.beq y b|_=>false
def Lx:SO->Bool|.am _ _ _=>false|_=>true
def jd:List (Nat×Nat×Bool)->Nat->Option Nat
 | [],_=>none
 |p::l,g=>bif Nat.beq p.1 g&&p.2.2 then some p.2.1 else jd l g
theorem fQ:∀{l:List (Nat×Nat×Bool)}{g d:Nat},jd l g=some d->(g,d,true)∈l
 | [],g,d,h=>by cases h
 |p::l,g,d,h=>by
  have h:(bif Nat.beq p.1 g&&p.2.2 then some p.2.1 else jd l g)=some d:=h;cases hb:(Nat.beq p.1 g&&p.2.2)with
  |true =>
   rw[hb]at h;cases h;rw[za]at hb;have:=ai hb.1;subst this;have e:p=(p.1,p.2.1,true):=by rw[<-hb.2]
   rw[<-e];exact zac ..
  |false=>rw[hb]at h;exact zaa _ (fQ h)
def mi (s:SS):List (Nat×Nat×Bool):=s.gs.filter fun p=>s.fz.contains p.2.1
def Bi (s:SS)(d d':Nat):List Nat->SS
 | []=>s
 |k::ks=>jR (Bi s d d' ks) (.a (.gn d' k)) (.a (.gn d k))
def mj:List (Nat×Nat)->Nat->Nat->List (Nat×Nat)
 | [],_,_=>[]
 |p::l,d,d'=>bif Nat.beq p.1 d then (d',p.2)::mj l d d' else mj l d d'
def pC (s:SS)(g d':Nat)(w:Bool)(os:List SO)(ats:List (Nat×SC×LE))(cU:List (Nat×LE×LE))(fz:List Nat)(sb:List (Nat×Nat)):SS:=⟨s.nx,s.L,os,s.ty,(g,d',w)::mi s,s.fs,s.bs,s.pw,ats++s.ats,cU++s.cU,s.ne,fz++s.fz,sb++s.sb⟩
def Nt (s:SS)(d d':Nat):List (Nat×SC×LE):=(s.ats.filter fun p=>Nat.beq p.1 d&&bo s p.2.2).map fun p=>(d',p.2.1,p.2.2)
def Vu (cf:Cf)(b g q:Nat)(osA:List SO)(k v:SV)(s:SS)(K:SS->R):R:=match jd s.gs g,k,v with
 |some d,.v false [x],.v false [.int kd e]=>(match sX s.ats d x with
  |some ea=>bif bo s ((LE.k (-1)).sub ea)&&(eE kd&&(bo s e&&(bo s (((LE.a (.gn d q)).sub e).bk (-1))&&(x.lt s.nx&&(e.lt s.nx&&(Nat.blt d s.nx&&(bJ s.nx g&&(Nat.blt b s.nx&&(osA.all Lx&&osA.all (SO.lt s.nx))))))))))then
   fresh s fun d' s'=>K (jR (Bi (pC s' g d' true (osA++[.am b g q]) ((d',x,e)::Nt s d d') [] [] (mj s.sb d d')) d d' [0,1,2,3,4]) (.a (.gn d' 5)) ((LE.a (.gn d 5)).bk 1))
   else .bad 210 s
  |none=>.bad 211 s)
 |_,_,_=>.bad 212 s
def TE (cf:Cf)(t:TypeId)(m k v:SV)(s:SS)(K:SS->R):R:=match cf.P.underlying t with
 |some (.map kt et)=>(match m with
  |.v false [.ref y]=>(match BF s.ty y with
   |some (cc,g)=>bif !cf.Φ.im cc&&(s.os.all SO.Na&&(gT cf kt (cf.Φ.pk cc)&&gq (cf.Φ.pk cc) k))then
    (match cf.Φ.mv cc,v,k with
     |.kd kd,.v false [x],_=>(match mJ cf s g (ghost s.gs g) (.k 0) kd x with|some _=>K s|none=>.bad 213 s)
     |.unit,.v true [],_=>K s
     |.Ii,.v false [.int kd e],.v true [x,_]=>(match ghost s.gs g with
      |some d=>(match sX s.ats d x with
       |some j=>(match yg s.cU d j with
        |some f=>bif eE kd&&(bo s j&&(bo s e&&(bo s ((f.sub e).bk (-1))&&s.fz.contains d)))then K s else .bad 214 s
        |none=>.bad 215 s)
       |none=>.bad 216 s)
      |none=>.bad 217 s)
     |_,_,_=>.bad 218 s)
    else .bad 219 s
   |none=>.bad 220 s)
  |.v false [.cV b]=>bif gT cf kt .str&&gq .str k then (match pB (UH b) s.os with
   |some (.im _ e0,osA)=>(match v with
    |.v false [.int kd e]=>bif eE kd&&bo s e then
     (bif bo s ((e0.sub e).bk (-1))then K (dm s (osA++[.im b e0]))else bif bo s ((e.bk 1).sub e0)then K (dm s (osA++[.im b (e.bk 1)]))else .bad 221 s)
     else .bad 222 s
    |_=>.bad 223 s)
   |some (.am _ g q,osA)=>Vu cf b g q osA k v s K
   |_=>.bad 224 s)else .bad 225 s
  |_=>.bad 226 s)
 |_=>.bad 227 s
section
variable {c:Cx}{T:Tm}{G:GH}{Γ:dy}{ρ ρ':aZ}{s s':SS}{cf:Cf}{ops:Array Oper}{i d:Nat}
theorem uS {dd dn:Nat}:∀{ks:List Nat},Ok c T G Γ ρ s->(∀k∈ks,(ρ dn).gg.n k=(ρ dd).gg.n k)->Ok c T G Γ ρ (Bi s dd dn ks)
 | [],h,_=>h
 |k::ks,h,hn=>(uS (ks:=ks) h fun j hj=>hn j (zaa _ hj)).jR (by rw[LE.aQ,LE.aQ];show (((ρ dn).gg.n k:Nat):Int)=(((ρ dd).gg.n k:Nat):Int);rw[hn k (zac ..)])
theorem tq {dd dn:Nat}(hs:(ρ dn).gg.sub=(ρ dd).gg.sub):∀{l:List (Nat×Nat)},(∀p∈l,(ρ p.1).gg.sub=ig ρ p.2)->∀p∈mj l dd dn,(ρ p.1).gg.sub=ig ρ p.2
 | [],_,_,h=>by cases h
 |q::l,h0,p,h=>by
  have h:p∈(bif Nat.beq q.1 dd then (dn,q.2)::mj l dd dn else mj l dd dn):=h;cases hb:Nat.beq q.1 dd with
  |true =>
   rw[hb]at h;have e:=ai hb;rcases List.mem_cons.1 h with rfl|h
   ·have:=h0 q (zac ..);rw[e]at this;show (ρ dn).gg.sub=_;rw[hs];exact this
   ·exact tq hs (fun p hp=>h0 p (zaa _ hp)) p h
  |false=>rw[hb]at h;exact tq hs (fun p hp=>h0 p (zaa _ hp)) p h
theorem rK {g:Nat}(hk:Ok c T G Γ ρ s){p:Nat×Nat×Bool}(hp:p∈mi s)(hg:(Γ.gd g).fz=false):p∈s.gs/\ig ρ p.1≠g:=by
 obtain⟨h1,h2⟩:=List.mem_filter.1 hp;refine⟨h1,fun e=>?_⟩;have h3:=hk.sat.fz p.2.1 (List.contains_iff_mem.1 h2);have:=(hk.q.gs (ig ρ p.1,(ρ p.2.1).gg,p.2.2) (List.mem_map.2 ⟨p,h1,rfl⟩)).2.1;have this:Γ.gd (ig ρ p.1)=(ρ p.2.1).gg:=this;rw[e]at this;rw[<-this,hg]at h3;cases h3
theorem yG {t kt et:TypeId}{ym yk yv:Operand}{y cc g:Nat}{k v:SV}{pk:KK}{K:SS->R}(ho:(af ops i).op=.mapUpdate t ym yk yv)(hg:(af ops i).guard=none)(hd:(af ops i).dst=none)(hu:c.P.underlying t=some (.map kt et))(hM:oY c.P kt (c.Φ.pk cc))(hk:Ok c T G Γ ρ s)(hm:bH c.nt T ym (ρ y).vv)(hkk:bH c.nt T yk (k.den ρ))(hv:bH c.nt T yv (v.den ρ))(hf:BF s.ty y=some (cc,g))(hks:cK (c.Φ.pk cc) (k.den ρ))(hz:s.os.all SO.Na=true)(hK:(K s).Ok)
  (him:c.Φ.im cc=false) (hok:∀es,fP c.P c.Φ G Γ cc (ig ρ g) es->fP c.P c.Φ G Γ cc (ig ρ g) (ez (k.den ρ) (v.den ρ) es)):Hv c T G Γ ops i s ρ K:=by
 obtain⟨b,q1,q2⟩:=hk.ty (j9 hf);obtain⟨g0,es,r1,r2,r3⟩:=hk.q.ht.b _ _ q2;have q1:(ρ y).vv=.cV b:=q1;rw[q1]at hm;have hnf:nf (v.den ρ):=wK v ρ;refine gm.ux hg hd ho hu hM hm hkk hv hks hnf r1 r3.1 ⟨rfl,rfl,updΓ Γ b (.map cc (ig ρ g)),ρ,s,hK,cM.refl _ _,zad _,hk.sat,?_⟩
 have hQ:=hk.q.Pj (x:=.map cc (ig ρ g)) (y:=.map cc (ig ρ g)) (tys':=[]) (g':=.map (ez (k.den ρ) (v.den ρ) es)) q2 him (oc.refl _) (fun el size C h=>by rw[r1]at h;cases h)
  (fun hr hl=>⟨g0,_,au _ _ _,fun p hp=>by
   rcases iS hp with h|h
   ·rw[h];exact hnf
   ·exact r2 p h,(hok es r3).le hr hl rfl⟩) (fun f h=>by cases h) (fun _ _ _ o ho2=>by obtain⟨o1,h1,rfl⟩:=List.mem_map.1 ho2;exact SO.Is (List.all_eq_true.1 hz o1 h1) ρ)
 exact hQ.iq (fun _ _ h=>h) ⟨[],by simp⟩ (fun f h=>h) (fun p h=>h)
set_option maxHeartbeats 1000000 in
theorem Jf {t:TypeId}{ym yk yv:Operand}{m k v:SV}{K:SS->R}(ho:(af ops i).op=.mapUpdate t ym yk yv)(hg:(af ops i).guard=none)(hd:(af ops i).dst=none)(hP:cf.P=c.P)(hΦ:cf.Φ=c.Φ)(hK:eX cf)(h:(TE cf t m k v s K).Ok)(hk:Ok c T G Γ ρ s)(hm:bH c.nt T ym (m.den ρ))(hkk:bH c.nt T yk (k.den ρ))(hv:bH c.nt T yv (v.den ρ)):Hv c T G Γ ops i s ρ K:=by
 unfold TE at h;split at h
 ·rename_i kt et hu;rw[hP]at hu;split at h
  ·rename_i y;split at h
   ·rename_i cc g hf;rw[hΦ]at h;cases hb:(!c.Φ.im cc&&(s.os.all SO.Na&&(gT cf kt (c.Φ.pk cc)&&gq (c.Φ.pk cc) k)))with
    |false=>rw[hb]at h;cases h
    |true =>
     rw[hb]at h;simp only[cond_true]at h;rw[za,za,za,zaj]at hb;obtain⟨him,hz,hb⟩:=hb;have hMt:=ij hb.1 hK;rw[hP]at hMt;have hkf:=fY hb.2 ρ;split at h
     ·rename_i kd x _ hmv;split at h
      ·rename_i o hc;obtain⟨fs,c1,c2,c3⟩:=Ee hc hΦ hk (fun dv h=>cR h hk) (J:=0) (by rw[LE.bz];exact⟨zch _,rfl⟩);refine yG (pk:=c.Φ.pk cc) ho hg hd hu hMt hk hm hkk hv hf hkf hz h him fun es hes=>?_;obtain⟨h1,h2⟩:=hes;refine⟨gA hkf h1,?_⟩;rw[hmv]at h2 ⊢;intro p hp;rcases iS hp with h|h
       ·rw[h];exact⟨fs,c1,c3⟩
       ·exact h2 p h
      ·cases h
     ·rename_i _ hmv;refine yG (pk:=c.Φ.pk cc) ho hg hd hu hMt hk hm hkk hv hf hkf hz h him fun es hes=>?_;obtain⟨h1,h2⟩:=hes;refine⟨gA hkf h1,?_⟩;rw[hmv]at h2 ⊢;intro p hp;rcases iS hp with h|h
      ·rw[h];rfl
      ·exact h2 p h
     ·rename_i kd e x z hmv;split at h
      ·rename_i dd hgd;split at h
       ·rename_i j hj;split at h
        ·rename_i f hff;cases hb2:(eE kd&&(bo s j&&(bo s e&&(bo s ((f.sub e).bk (-1))&&s.fz.contains dd))))with
         |false=>rw[hb2]at h;cases h
         |true =>
          rw[hb2]at h;simp only[cond_true]at h;simp only[za]at hb2;obtain⟨b1,b2,b3,b4,b5⟩:=hb2;have b1:=dT b1;subst b1;have e1:=ax b2 hk.sat;have e2:=ax b3 hk.sat;have e3:=ax b4 hk.sat;rw[LE.aO,LE.aw]at e3;have hdd:=cR hgd hk;have hfz:=hk.sat.fz dd (List.contains_iff_mem.1 b5);obtain⟨x',m1,m2⟩:=nY hj;obtain⟨j',m3,m4⟩:=qG hff;obtain⟨_,_,f3⟩:=hk.sat.cU _ m3;have f3:(((ρ dd).gg.fl (j'.ev ρ).toNat:Nat):Int)=f.ev ρ:=f3;rw[m4 ρ]at f3
          obtain⟨a1,a2⟩:=(hk.sat.ats _ m1).resolve_right fun hr=>by
           have hr:j.ev ρ<0:=hr.1;omega
          have a2:po (ρ dd).gg (x'.den ρ)=some (j.ev ρ).toNat:=a2;rw[m2 ρ]at a2;refine yG (pk:=c.Φ.pk cc) ho hg hd hu hMt hk hm hkk hv hf hkf hz h him fun es hes=>?_;obtain⟨h1,h2⟩:=hes;refine⟨gA hkf h1,?_⟩;rw[hmv]at h2 ⊢;obtain⟨hpk,hz,hrs,hfi⟩:=h2;refine⟨hpk,hz,hrs,fun p hp=>?_⟩;rcases wU hp with hp'|⟨hp1,hp2⟩
          ·exact hfi p hp'
          ·have hpkey:=gA hkf h1 p hp;rw[hpk]at hkf hpkey;obtain⟨l,n,l',n',ek⟩:=hkf;obtain⟨pl,pn,pl',pn',ep⟩:=hpkey;have ek0:AV.agg [x.den ρ,z.den ρ]=.agg [.str l n,.str l' n']:=ek;have ex:x.den ρ=.str l n:=by injection ek0 with e;exact (List.cons.inj e).1
           rw[ex]at a2;have a2:(ρ dd).gg.at_ l n=some (j.ev ρ).toNat:=a2;rw[hdd];rw[hdd]at hrs;refine⟨pl,pn,pl',pn',(e.ev ρ).toNat,(j.ev ρ).toNat,ep,?_,hfz,?_,by omega⟩
           ·rw[hp1];show AV.int .i64 (e.ev ρ)=_;congr 1;exact (zbp e2).symm
           ·rcases hp2 with hp2|hp2
            ·rw[ep]at hp2;have hp2:AV.agg [.str pl pn,.str pl' pn']=.agg [x.den ρ,z.den ρ]:=hp2;rw[ek0]at hp2;injection hp2 with e0;have:=(List.cons.inj e0).1;injection this with e4 e5;subst e4 e5;exact a2
            ·rw[ep]at hp2;have hp2:aW (.agg [x.den ρ,z.den ρ]) (.agg [.str pl pn,.str pl' pn'])=true:=hp2;rw[ek0]at hp2;have hp2:(aR l n pl pn&&aR l' n' pl' pn')=true:=hp2;rw[za]at hp2;rw[<-hrs l n pl pn hp2.1];exact a2
        ·cases h
       ·cases h
      ·cases h
     ·cases h
   ·cases h
  ·rename_i b;cases hb:(gT cf kt .str&&gq .str k)with
   |false=>rw[hb]at h;cases h
   |true =>
    rw[hb]at h;simp only[cond_true]at h;rw[za]at hb;have hMt:=ij hb.1 hK;rw[hP]at hMt;have hkf:=fY hb.2 ρ;have hm:bH c.nt T ym (.cV (ρ b).nn):=hm;have hnf:nf (v.den ρ):=wK v ρ;split at h
    ·rename_i b' e0 osA hr;obtain⟨r1,r2⟩:=gj hr;have hbb:b'=b:=ai r1;subst hbb;obtain⟨o1,es,o2,o3⟩:=hk.own (r2.mem_iff.2 (by simp:SO.im b' e0∈osA++[.im b' e0]));have hpd:=e7 r2 ρ;rw[zat,zbj]at hpd;split at h
     ·rename_i kd e;cases hb2:(eE kd&&bo s e)with
      |false=>rw[hb2]at h;cases h
      |true =>
       rw[hb2]at h;simp only[cond_true]at h;rw[za]at hb2;have b1:=dT hb2.1;subst b1;have hpos:=ax hb2.2 hk.sat
       have fin:∀en:LE,(K (dm s (osA++[.im b' en]))).Ok->(e0.ev ρ).toNat<=(en.ev ρ).toNat->(e.ev ρ).toNat<(en.ev ρ).toNat->Hv c T G Γ ops i s ρ K:=fun en hKn hle hlt=>by
        refine gm.ux hg hd ho hu hMt hm hkk hv hkf hnf o2 (fun p hp=>(o3 p hp).1) ⟨rfl,rfl,Γ,ρ,_,hKn,cM.refl _ _,zad _,⟨hk.sat.fs,hk.sat.bs,hk.sat.pw,hk.sat.ats,hk.sat.cU,hk.sat.ne,hk.sat.fz,hk.sat.sb⟩,?_⟩
        have hQ:=hk.q.A8 (b:=(ρ b').nn) (G':=dj G (ρ b').nn (.map (ez (k.den ρ) ((SV.v false [SC.int .i64 e]).den ρ) es))) (Γ':=Γ) (osA:=osA.map (SO.den ρ)) (o:=SO.den ρ (.im b' e0)) (o':=SO.den ρ (.im b' en)) (tys':=[]) hpd (dG (.inl (by rw[o2];rfl))) (fun _ _=>rfl) (fun k h=>aV h) (by rw[au];rfl)
         (fun _ _ _ h=>by rw[o2]at h;cases h) (fun _ _ _ h=>by rw[o2]at h;cases h) (fun x h=>by rw[o1]at h;cases h) rfl rfl (.inl rfl) rfl (fun x _ _ h=>by rw[o1]at h;cases h)
         (fun hr' hl'=>⟨o1,_,au _ _ _,fun p hp=>⟨gA hkf (fun p hp=>(o3 p hp).1) p hp,by
          rcases iS hp with h|h
          ·exact⟨(e.ev ρ).toNat,by rw[h];show AV.int .i64 (e.ev ρ)=_;congr 1;exact (zbp hpos).symm,hlt⟩
          ·obtain⟨_,n,h1,h2⟩:=o3 p h;exact⟨n,h1,by omega⟩⟩⟩) (fun f h=>by cases h)
        refine hQ.iq (fun _ _ h=>h) ⟨[],?_⟩ (fun f h=>h) (fun p h=>h);show List.Perm _ (((osA++[SO.im b' en]).map (SO.den ρ))++[]);rw[zbg,zat,zbj]
       cases hc:bo s ((e0.sub e).bk (-1))with
       |true =>
        rw[hc]at h;have h2:=ax hc hk.sat;rw[LE.aO,LE.aw]at h2;exact fin e0 h (zad _) (by omega)
       |false =>
        rw[hc]at h;simp only[cond_false]at h;cases hc2:bo s ((e.bk 1).sub e0)with
        |false=>rw[hc2]at h;cases h
        |true =>
         rw[hc2]at h;have h2:=ax hc2 hk.sat;rw[LE.aw,LE.aO]at h2;exact fin (e.bk 1) h (by rw[LE.aO];omega) (by rw[LE.aO];omega)
     ·cases h
    ·rename_i b' g q osA hr;obtain⟨r1,r2⟩:=gj hr;have hbb:b'=b:=ai r1;subst hbb;obtain⟨o1,o0,obd,es,o2,⟨Ns,o3⟩,o4⟩:=hk.own (r2.mem_iff.2 (by simp:SO.am b' g q∈osA++[.am b' g q]));have hpd:=e7 r2 ρ;rw[zat,zbj]at hpd;unfold Vu at h;split at h
     ·rename_i dd x kd e hgw;split at h
      ·rename_i ea hat;cases hb2:(bo s ((LE.k (-1)).sub ea)&&(eE kd&&(bo s e&&(bo s (((LE.a (.gn dd q)).sub e).bk (-1))&&(x.lt s.nx&&(e.lt s.nx&&(Nat.blt dd s.nx&&(bJ s.nx g&&(Nat.blt b' s.nx&&(osA.all Lx&&osA.all (SO.lt s.nx)))))))))))with
       |false=>rw[hb2]at h;cases h
       |true =>
        rw[hb2]at h;simp only[cond_true]at h;simp only[za]at hb2;obtain⟨b1,b2,b3,b4,b5,b6,b7,b8,b9,b10,b11⟩:=hb2;have b2:=dT b2;subst b2;have e1:=ax b1 hk.sat;rw[LE.aw,LE.bz]at e1;have e2:=ax b3 hk.sat;have e3:=ax b4 hk.sat;rw[LE.aO,LE.aw,LE.aQ]at e3;have e3:0<=(((ρ dd).gg.n q:Nat):Int)-e.ev ρ+-1:=e3;obtain⟨x',m1,m2⟩:=nY hat
        obtain⟨_,a2⟩:=(hk.sat.ats _ m1).resolve_left fun hr=>by
         have hr:0<=ea.ev ρ:=hr.1;omega
        have a2:po (ρ dd).gg (x'.den ρ)=none:=a2;rw[m2 ρ]at a2;have hmemg:=fQ hgw;have hgs:=hk.q.gs (ig ρ g,(ρ dd).gg,true) (List.mem_map.2 ⟨(g,dd,true),hmemg,rfl⟩);obtain⟨g1,g2,g3⟩:=hgs;have g2:Γ.gd (ig ρ g)=(ρ dd).gg:=g2;obtain⟨g3,g4,g5⟩:=g3 rfl;have g4:(ρ dd).gg.fz=false:=g4;obtain⟨lx,mx,ek⟩:=hkf;have ex:x.den ρ=.str lx mx:=ek;rw[ex]at a2;have a2:(ρ dd).gg.at_ lx mx=none:=a2;rw[g2]at obd o4 Ns
        -- the new ghost
        let dn:Gd:=⟨fun k=>bif Nat.beq k 5 then (ρ dd).gg.n 5+1 else (ρ dd).gg.n k,fun l m=>bif aR l m lx mx then some (e.ev ρ).toNat else (ρ dd).gg.at_ l m,(ρ dd).gg.fl,false,(ρ dd).gg.sub,(ρ dd).gg.wn,(ρ dd).gg.ww,(ρ dd).gg.nm,(ρ dd).gg.wm⟩
        have hnn:∀k,(ρ dd).gg.n k<=dn.n k:=fun k=>by
         show _<=bif Nat.beq k 5 then (ρ dd).gg.n 5+1 else (ρ dd).gg.n k;cases hk5:Nat.beq k 5 with
         |true=>rw[ai hk5];exact zan _
         |false=>exact zad _
        have hsame:∀l m,aR l m lx mx=true->(ρ dd).gg.at_ l m=none:=fun l m hs=>by
         have h1:=o4 l m;have h2:=o4 lx mx;rw[qJ (pk:=.str) (x:=.str l m) (k:=.str lx mx) ⟨l,m,rfl⟩ ⟨lx,mx,rfl⟩ hs fun p hp=>(o3 p hp).1,h2,a2]at h1;cases hc:(ρ dd).gg.at_ l m with
         |none=>rfl
         |some j=>rw[hc]at h1;cases h1
        have hle:(ρ dd).gg.Le dn:=by
         refine⟨hnn,fun l m j hj=>?_,fun hz=>?_,rfl,fun _ _ h=>h,fun _ _ h=>h⟩
         ·show (bif aR l m lx mx then some (e.ev ρ).toNat else (ρ dd).gg.at_ l m)=some j;cases hs:aR l m lx mx with
          |true=>rw[hsame l m hs]at hj;cases hj
          |false=>exact hj
         ·rw[g4]at hz;cases hz
        refine gm.ux hg hd ho hu hMt hm hkk hv ⟨lx,mx,ek⟩ hnf o2 (fun p hp=>(o3 p hp).1) ⟨rfl,rfl,gr Γ (ig ρ g) dn Γ.ng,?_⟩
        -- the map,exactly
        have hQ1:=hk.q.A8 (b:=(ρ b').nn) (G':=dj G (ρ b').nn (.map (ez ((SV.v false [x]).den ρ) ((SV.v false [SC.int .i64 e]).den ρ) es))) (Γ':=Γ) (osA:=osA.map (SO.den ρ)) (o:=SO.den ρ (.am b' g q)) (o':=.map (ρ b').nn .str (ez ((SV.v false [x]).den ρ) ((SV.v false [SC.int .i64 e]).den ρ) es)) (tys':=[]) hpd (dG (.inl (by rw[o2];rfl))) (fun _ _=>rfl) (fun k h=>aV h) (by rw[au];rfl)
         (fun _ _ _ h=>by rw[o2]at h;cases h) (fun _ _ _ h=>by rw[o2]at h;cases h) (fun x h=>by rw[o1]at h;cases h) rfl rfl (.inl rfl) rfl (fun x _ _ h=>by rw[o1]at h;cases h)
         (fun hr' hl'=>⟨au _ _ _,o1,gA (pk:=.str) ⟨lx,mx,ek⟩ fun p hp=>(o3 p hp).1⟩) (fun f h=>by cases h)
        have hnoam:∀b g' k',Own.am b g' k'∈osA.map (SO.den ρ)++[.map (ρ b').nn .str (ez ((SV.v false [x]).den ρ) ((SV.v false [SC.int .i64 e]).den ρ) es)]->False:=fun b g' k' hm=>by
         rcases List.mem_append.1 hm with hm|hm
         ·obtain⟨o,h1,h2⟩:=List.mem_map.1 hm;have:=List.all_eq_true.1 b10 o h1;cases o<;>first|(cases h2;done)|skip
          cases this
         ·have:=List.mem_singleton.1 hm;cases this
        have hQ2:=hQ1.Jc (g:=ig ρ g) (d0:=(ρ dd).gg) (dn:=dn) (w:=true) (gs':=(ig ρ g,dn,true)::(mi s).map fun p=>(ig ρ p.1,(ρ p.2.1).gg,p.2.2)) (List.mem_map.2 ⟨(g,dd,true),hmemg,rfl⟩) hle (fun _=>rfl) (fun b g' k' hm=>(hnoam b g' k' hm).elim) (fun p hp=>by
         rcases List.mem_cons.1 hp with rfl|hp
         ·exact .inl rfl
         ·obtain⟨p0,h1,rfl⟩:=List.mem_map.1 hp;obtain⟨k1,k2⟩:=rK (g:=ig ρ g) hk h1 (by rw[g2];exact g4)
          exact .inr ⟨List.mem_map.2 ⟨p0,k1,rfl⟩,k2⟩)
        have hgdn:(gr Γ (ig ρ g) dn Γ.ng).gd (ig ρ g)=dn:=eZ _ _ _ _
        have hown3:dO c.P c.Φ (dj G (ρ b').nn (.map (ez ((SV.v false [x]).den ρ) ((SV.v false [SC.int .i64 e]).den ρ) es))) (gr Γ (ig ρ g) dn Γ.ng) (.am (ρ b').nn (ig ρ g) q):=by
         refine⟨o1,o0,?_,_,au _ _ _,⟨?_,fun p hp=>⟨gA (pk:=.str) ⟨lx,mx,ek⟩ (fun p hp=>(o3 p hp).1) p hp,?_⟩⟩,?_⟩
         ·rw[hgdn];intro l n j hj;have hj:(bif aR l n lx mx then some (e.ev ρ).toNat else (ρ dd).gg.at_ l n)=some j:=hj;cases hs:aR l n lx mx with
          |true=>rw[hs]at hj;cases hj;exact zaw (by omega) (hnn q)
          |false=>rw[hs]at hj;exact zaw (obd l n j hj) (hnn q)
         ·rw[hgdn];exact zam Gs.2 (Nat.succ_le_succ Ns)
         ·rcases iS hp with h|h
          ·rw[h];exact hnf
          ·exact (o3 p h).2
         ·rw[hgdn];intro l n;rw[nX (pk:=.str) ⟨lx,mx,ek⟩ ⟨l,n,rfl⟩ fun p hp=>(o3 p hp).1];rw[show (SV.v false [x]).den ρ=.str lx mx from ek];show (if aR l n lx mx=true then _ else _)=Option.map _ (bif aR l n lx mx then some (e.ev ρ).toNat else (ρ dd).gg.at_ l n);cases hs:aR l n lx mx with
          |true =>
           rw[if_pos rfl];show some (AV.int .i64 (e.ev ρ))=some (AV.int .i64 (.ofNat (e.ev ρ).toNat));congr 2;exact (zbp e2).symm
          |false=>rw[if_neg (by decide)];exact o4 l n
        have hQ3:=hQ2.conv (osA:=osA.map (SO.den ρ)) (o':=.am (ρ b').nn (ig ρ g) q) (List.Perm.refl _) rfl hown3
        obtain⟨p1,p2,p3,p4⟩:=aA h hk (.g dn);have hgg:(ρ.up s.nx (.g dn) s.nx).gg=dn:=by rw[p4];rfl
        have eD:=(SS.bG (dB h) p2).1;have hdd:=p2 dd (av b7);have eO:osA.map (SO.den (ρ.up s.nx (.g dn)))=osA.map (SO.den ρ):=zav fun o ho=>SO.bG p2 (List.all_eq_true.1 b11 o ho);refine⟨ρ.up s.nx (.g dn),_,p1,p2,zan _,Ok.jR (uS (ks:=[0,1,2,3,4]) (dd:=dd) (dn:=s.nx) ⟨⟨p3.sat.fs,p3.sat.bs,p3.sat.pw,fun p hp=>?_,p3.sat.cU,p3.sat.ne,p3.sat.fz,fun p hp=>?_⟩,?_⟩ ?_) ?_⟩
        ·rcases List.mem_append.1 hp with hp|hp
         ·rcases List.mem_cons.1 hp with rfl|hp
          ·refine .inl ⟨by show 0<=e.ev _;rw[LE.bG p2 b6];exact e2,?_⟩;show po (ρ.up s.nx (.g dn) s.nx).gg (x.den (ρ.up s.nx (.g dn)))=some (e.ev (ρ.up s.nx (.g dn))).toNat;rw[hgg,SC.bG p2 b5,LE.bG p2 b6,ex];show (bif aR lx mx lx mx then some (e.ev ρ).toNat else (ρ dd).gg.at_ lx mx)=_;rw[iD];rfl
          ·obtain⟨p0,hp0,rfl⟩:=List.mem_map.1 hp;obtain⟨h1,h2⟩:=List.mem_filter.1 hp0;rw[za]at h2;have hs0:=p3.sat.ats p0 h1;unfold Kc at hs0 ⊢;have ed:=ai h2.1;rw[ed,hdd]at hs0
           have hpos:0<=p0.2.2.ev (ρ.up s.nx (.g dn)):=by
            exact yd (s:=s) (fun f hf=>p3.sat.fs f hf) h2.2
           rcases hs0 with ⟨a3,a4⟩|⟨a3,_⟩
           ·refine .inl ⟨a3,?_⟩;show po (ρ.up s.nx (.g dn) s.nx).gg _=_;rw[hgg];exact C5 hle a4
           ·exact absurd hpos (by omega)
         ·exact p3.sat.ats p hp
        ·rcases List.mem_append.1 hp with hp|hp
         ·exact tq (dd:=dd) (dn:=s.nx) (by rw[hgg,hdd]) p3.sat.sb p hp
         ·exact p3.sat.sb p hp
        ·have:(pC (aC s) g s.nx true (osA++[.am b' g q]) ((s.nx,x,e)::Nt s dd s.nx) [] [] (mj s.sb dd s.nx)).den (ρ.up s.nx (.g dn))=⟨(s.den ρ).L,osA.map (SO.den ρ)++[.am (ρ b').nn (ig ρ g) q],(s.den ρ).dQ,(ig ρ g,dn,true)::(mi s).map fun p=>(ig ρ p.1,(ρ p.2.1).gg,p.2.2)⟩:=by
           refine St.ext' (by have:=congrArg St.L eD;exact this) ?_ (by have:=congrArg St.dQ eD;exact this) ?_
           ·show (osA++[SO.am b' g q]).map (SO.den _)=_;rw[zat,eO,zbj];simp only[SO.den];rw[p2 b' (av b9),ba p2 b8]
           ·show (ig (ρ.up s.nx (.g dn)) g,(ρ.up s.nx (.g dn) s.nx).gg,true)::(mi s).map (fun p=>(ig (ρ.up s.nx (.g dn)) p.1,(ρ.up s.nx (.g dn) p.2.1).gg,p.2.2))=_;rw[hgg,ba p2 b8];congr 1;refine zav fun p hp=>?_;have hs:=dB h;unfold SS.ok at hs;simp only[za,zb]at hs;have:=hs.2.2.2.1 p (List.mem_filter.1 hp).1;rw[ba p2 this.1,p2 _ (av this.2)]
         rw[this];exact hQ3.iq (fun _ _ h=>h) ⟨[],by rw[zbg]⟩ (fun f h=>h) (fun p h=>h)
        ·intro k hk5;rw[hgg,hdd];show (bif Nat.beq k 5 then (ρ dd).gg.n 5+1 else (ρ dd).gg.n k)=_;simp only[List.mem_cons,List.not_mem_nil,or_false]at hk5;have h5:Nat.beq k 5=false:=by rcases hk5 with h|h|h|h|h<;>(rw[h];rfl)
         rw[h5];rfl
        ·rw[LE.aO,LE.aQ,LE.aQ];show (((ρ.up s.nx (.g dn) s.nx).gg.n 5:Nat):Int)=(((ρ.up s.nx (.g dn) dd).gg.n 5:Nat):Int)+1;rw[hgg,hdd];show (((ρ dd).gg.n 5+1:Nat):Int)=_;omega
      ·cases h
     ·cases h
    ·cases h
  ·cases h
 ·cases h
end
end Go.Rd
namespace Go.Rd
open Go.aI Go.RowKit Go.Rt
def UI:List SO->Nat->Option (Nat×Nat×LE)
 | [],_=>none
 |.rm y c g n::l,x=>bif Nat.beq y x then some (c,g,n)else UI l x
 |_::l,x=>UI l x
def TG:List SO->Nat->Option (SC×LE×LE×Bool×Bool)
 | [],_=>none
 |.it y m n r st ty::l,x=>bif Nat.beq y x then some (m,n,r,st,ty)else TG l x
 |_::l,x=>TG l x
section
variable {c:Cx}{T:Tm}{G:GH}{Γ:dy}{ρ ρ':aZ}{s s':SS}{cf:Cf}{ops:Array Oper}{i d:Nat}
theorem Ok.Rx {G':GH}{osA:List SO}{o:SO}(h:Ok c T G Γ ρ s)(hq:Q c T G' Γ ⟨(s.den ρ).L,osA.map (SO.den ρ)++[o.den ρ],[]++(s.den ρ).dQ,(s.den ρ).gs⟩):Ok c T G' Γ ρ (dm s (osA++[o])):=by
 refine⟨⟨h.sat.fs,h.sat.bs,h.sat.pw,h.sat.ats,h.sat.cU,h.sat.ne,h.sat.fz,h.sat.sb⟩,?_⟩;refine hq.iq (fun _ _ h=>h) ⟨[],?_⟩ (fun f h=>h) (fun p h=>h);show List.Perm _ (((osA++[o]).map (SO.den ρ))++[]);rw[zbg,zat,zbj]
end
end Go.Rd

namespace Go.Rd
open Go.aI Go.RowKit Go.Rt
def Ac (c:Cx)(T:Tm)(G:GH)(Γ:dy)(s:SS)(ρ:aZ)(K:SS->R):Prop :=
 ∃G' Γ' ρ' s',sZ G G'/\(K s').Ok/\cM s.nx ρ ρ'/\s.nx<=s'.nx/\Ok c T G' Γ' ρ' s'
def sy (s:SS)(d d':Nat):List (Nat×SC×LE):=(s.ats.filter fun p=>Nat.beq p.1 d).map fun p=>(d',p.2.1,p.2.2)
def UJ:List (Nat×LE)->Nat->Option LE
 | [],_=>none
 |p::l,k=>bif Nat.beq p.1 k then some p.2 else UJ l k
def Gt (s:SS)(dv:Nat):List (Nat×LE)->SS
 | []=>s
 |p::l=>jR (Gt s dv l) (.a (.gn dv p.1)) p.2
def Gv (s:SS)(ns:List (Nat×LE)):Bool:=ns.all fun p=>bo s p.2&&p.2.lt s.nx
def TH (ρ:aZ)(ns:List (Nat×LE))(k:Nat):Nat:=match UJ ns k with|some e=>(e.ev ρ).toNat|none=>0
def Nu:List (Nat×LE)->Bool
 | []=>true
 |p::l=>(l.all fun q=>!Nat.beq q.1 p.1)&&Nu l
def Et (s:SS)(p:Nat×Nat×Bool)(sb:Nat×Nat):SS:=⟨s.nx,s.L,s.os,s.ty,p::s.gs,s.fs,s.bs,s.pw,s.ats,s.cU,s.ne,s.fz,sb::s.sb⟩
def Jg (ns:List (Nat×LE))(sub:Nat)(s:SS)(K:SS->R):R:=bif Gv s ns&&(Nu ns&&bJ s.nx sub)then
    fresh s fun y s=>fresh s fun dv s=>K (Gt (Et s (y+1,dv,true) (dv,sub)) dv ns)
 else .bad 230 s
def C6 (ns:List (Nat×LE))(sub b k:Nat)(s:SS)(K:SS->R):R:=bif Gv s ns&&(Nu ns&&(bJ s.nx sub&&Nat.blt b s.nx))then
    (match pB (fun o=>match o with|.em y pk=>Nat.beq y b&&F7 pk .str|_=>false) s.os with
     |some (_,osA)=>bif osA.all (SO.lt s.nx)then fresh s fun y s=>fresh s fun dv s=>K (Gt (Et (dm s (osA++[.am b (y+1) k])) (y+1,dv,true) (dv,sub)) dv ns)else .bad 231 s
     |none=>.bad 232 s)
 else .bad 233 s
def C7 (g k:Nat)(e:LE)(s:SS)(K:SS->R):R:=match jd s.gs g with
 |some d=>bif bo s (e.sub (.a (.gn d k)))&&(e.lt s.nx&&(Nat.blt d s.nx&&bJ s.nx g))then
  fresh s fun d' s'=>K (jR (Bi (pC s' g d' true s.os (sy s d d') [] [] (mj s.sb d d')) d d' ([0,1,2,3,4,5].filter fun j=>!Nat.beq j k)) (.a (.gn d' k)) e)
  else .bad 234 s
 |none=>.bad 235 s
def Jh (g:Nat)(s:SS)(K:SS->R):R:=match jd s.gs g with
 |some d=>bif Nat.blt d s.nx&&bJ s.nx g then
  fresh s fun d' s'=>K (Bi (pC s' g d' false s.os (sy s d d') [] [d'] (mj s.sb d d')) d d' [0,1,2,3,4,5])
  else .bad 236 s
 |none=>.bad 237 s
section
variable {c:Cx}{T:Tm}{G:GH}{Γ:dy}{ρ ρ':aZ}{s s':SS}{cf:Cf}{ops:Array Oper}{i d:Nat}
theorem yH {dv:Nat}:∀{ns:List (Nat×LE)},Ok c T G Γ ρ s->(∀p∈ns,(((ρ dv).gg.n p.1:Nat):Int)=p.2.ev ρ)->Ok c T G Γ ρ (Gt s dv ns)
 | [],h,_=>h
 |p::l,h,hn=>(yH (ns:=l) h fun q hq=>hn q (zaa _ hq)).jR (by rw[LE.aQ];exact hn p (zac ..))
theorem Ji (ρ:aZ):∀{ns:List (Nat×LE)},Nu ns=true->∀p∈ns,TH ρ ns p.1=(p.2.ev ρ).toNat
 | [],_,p,h=>by cases h
 |q::l,hu,p,h=>by
  have hu:((l.all fun x=>!Nat.beq x.1 q.1)&&Nu l)=true:=hu;rw[za]at hu;unfold TH;show (match (bif Nat.beq q.1 p.1 then some q.2 else UJ l p.1)with|some e=>(e.ev ρ).toNat|none=>0)=_;rcases List.mem_cons.1 h with rfl|h
  ·rw[zcf];rfl
  ·have hne:Nat.beq p.1 q.1=false:=by
     have:=List.all_eq_true.1 hu.1 p h;rw[zaj]at this;exact this
   have hne2:Nat.beq q.1 p.1=false:=by
    cases hb:Nat.beq q.1 p.1 with
    |false=>rfl
    |true=>have:=ai hb;rw[this,zcf]at hne;cases hne
   rw[hne2];exact Ji ρ hu.2 p h
theorem PH {K:Nat->Nat->SS->R}(h:((fresh s fun y s=>fresh s fun dv s=>K y dv s)).Ok)(hk:Ok c T G Γ ρ s)(u v:U):∃ρ',(K s.nx (s.nx+1) (aC (aC s))).Ok/\cM s.nx ρ ρ'/\Ok c T G Γ ρ' (aC (aC s))/\ρ' s.nx=u/\ρ' (s.nx+1)=v:=by
 obtain⟨h1,h2,h3,h4⟩:=aA h hk u;obtain⟨k1,k2,k3,k4⟩:=aA h1 h3 v;refine⟨_,k1,h2.trans k2 (zan _),k3,?_,k4⟩;rw[k2 s.nx (zdc _)];exact h4
theorem Ly {ns:List (Nat×LE)}(h:Gv s ns=true)(hs:Sat ρ s):∀p∈ns,0<=p.2.ev ρ/\p.2.lt s.nx=true:=fun p hp=>by
 have:=List.all_eq_true.1 h p hp;rw[za]at this;exact⟨ax this.1 hs,this.2⟩
theorem Bj {ns:List (Nat×LE)}{sub:Nat}{os:List SO}{K:Nat->Nat->SS->R}(hns:Gv s ns=true)(hu:Nu ns=true)(hsub:bJ s.nx sub=true)(h:((fresh s fun y s=>fresh s fun dv s=>K y dv s)).Ok)(hk:Ok c T G Γ ρ s) :
  ∃ρ' dn,(K s.nx (s.nx+1) (aC (aC s))).Ok/\cM s.nx ρ ρ'/\(ρ' s.nx).nn=Γ.ng/\(ρ' (s.nx+1)).gg=dn/\dn.at_=(fun _ _=>none)/\dn.fz=false/\(∀p∈ns,(((ρ' (s.nx+1)).gg.n p.1:Nat):Int)=p.2.ev ρ')/\(ρ' (s.nx+1)).gg.sub=ig ρ' sub/\Sat ρ' (aC (aC s))/\(aC (aC s)).den ρ'=s.den ρ/\Q c T G (gr Γ Γ.ng dn (Γ.ng+1)) ⟨(s.den ρ).L,(s.den ρ).os,(s.den ρ).dQ,(Γ.ng,dn,true)::(s.den ρ).gs⟩:=by
 let dn:Gd:=⟨TH ρ ns,fun _ _=>none,fun _=>0,false,ig ρ sub,fun _=>none,fun _ _=>rfl,fun _=>none,fun _ _=>rfl⟩
 obtain⟨ρ',k1,k2,k3,k4,k5⟩:=PH h hk (.n Γ.ng) (.g dn);have hs:=dB h;refine⟨ρ',dn,k1,k2,by rw[k4];rfl,by rw[k5];rfl,rfl,rfl,fun p hp=>?_,?_,k3.sat,?_,hk.q.UC dn true fun _=>rfl⟩
 ·obtain⟨e1,e2⟩:=Ly hns hk.sat p hp;rw[k5,LE.bG k2 e2];show ((TH ρ ns p.1:Nat):Int)=_;rw[Ji ρ hu p hp];omega
 ·rw[k5,ba k2 hsub];rfl
 ·exact (SS.bG hs k2).1
theorem Jj {ns:List (Nat×LE)}{sub:Nat}{K:SS->R}(h:(Jg ns sub s K).Ok)(hk:Ok c T G Γ ρ s):Ac c T G Γ s ρ K:=by
 unfold Jg at h;cases hb:(Gv s ns&&(Nu ns&&bJ s.nx sub))with
 |false=>rw[hb]at h;cases h
 |true =>
  rw[hb]at h;simp only[cond_true]at h;simp only[za]at hb;obtain⟨ρ',dn,k1,k2,k3,k4,_,k6,k7,k8,k9,k10,k11⟩:=Bj (os:=[]) hb.1 hb.2.1 hb.2.2 h hk;refine⟨G,gr Γ Γ.ng dn (Γ.ng+1),ρ',_,sZ.refl _,k1,k2,?_,yH ⟨⟨k9.fs,k9.bs,k9.pw,k9.ats,k9.cU,k9.ne,k9.fz,fun p hp=>?_⟩,?_⟩ k7⟩
  ·have:∀(s0:SS) (dv:Nat) (l:List (Nat×LE)),(Gt s0 dv l).nx=s0.nx:=fun s0 dv l=>by
     induction l with
     |nil=>rfl
     |cons p l ih=>exact ih
   rw[this];show s.nx<=s.nx+1+1;omega
  ·rcases List.mem_cons.1 hp with rfl|hp
   ·exact k8
   ·exact k9.sb p hp
  ·have:(Et (aC (aC s)) (s.nx+1,s.nx+1,true) (s.nx+1,sub)).den ρ'=⟨(s.den ρ).L,(s.den ρ).os,(s.den ρ).dQ,(Γ.ng,dn,true)::(s.den ρ).gs⟩:=by
     refine St.ext' (by have:=congrArg St.L k10;exact this) (by have:=congrArg St.os k10;exact this) (by have:=congrArg St.dQ k10;exact this) ?_;show ((ρ' s.nx).nn,(ρ' (s.nx+1)).gg,true)::_=_;rw[k3,k4];congr 1;have:=congrArg St.gs k10;exact this
   rw[this];exact k11
theorem Lz (s0:SS)(dv:Nat)(l:List (Nat×LE)):(Gt s0 dv l).nx=s0.nx:=by
 induction l with
 |nil=>rfl
 |cons p l ih=>exact ih
theorem yI (s0:SS)(d dv:Nat)(l:List Nat):(Bi s0 d dv l).nx=s0.nx:=by
 induction l with
 |nil=>rfl
 |cons p l ih=>exact ih
theorem Gw {ns:List (Nat×LE)}{sub b k:Nat}{K:SS->R}(h:(C6 ns sub b k s K).Ok)(hk:Ok c T G Γ ρ s):Ac c T G Γ s ρ K:=by
 unfold C6 at h;cases hb:(Gv s ns&&(Nu ns&&(bJ s.nx sub&&Nat.blt b s.nx)))with
 |false=>rw[hb]at h;cases h
 |true =>
  rw[hb]at h;simp only[cond_true]at h;simp only[za]at hb;split at h
  ·rename_i o osA hr;cases hb2:osA.all (SO.lt s.nx)with
   |false=>rw[hb2]at h;cases h
   |true =>
    rw[hb2]at h;simp only[cond_true]at h;obtain⟨r1,r2⟩:=gj hr
    obtain⟨pk,rfl,hpk⟩:∃pk,o=.em b pk/\pk=.str:=by
     cases o<;>first|(cases r1;done)|skip
     rename_i y pk;have r1:(Nat.beq y b&&F7 pk .str)=true:=r1;rw[za]at r1;have:=ai r1.1;have:=pj r1.2
     subst_vars
     exact⟨_,rfl,rfl⟩
    subst hpk;obtain⟨ρ',dn,k1,k2,k3,k4,k5,k6,k7,k8,k9,k10,k11⟩:=Bj (os:=[]) hb.1 hb.2.1 hb.2.2.1 h hk;have hpd:=e7 r2 ρ;rw[zat,zbj]at hpd;obtain⟨o1,o2,o3⟩:=hk.own (r2.mem_iff.2 (by simp:SO.em b .str∈osA++[.em b .str]));have hgd:(gr Γ Γ.ng dn (Γ.ng+1)).gd Γ.ng=dn:=eZ _ _ _ _;have hQ:=k11.conv (osA:=osA.map (SO.den ρ)) (o':=.am (ρ b).nn Γ.ng k) hpd rfl ⟨o2,zdc _,by rw[hgd,k5];exact fun l n j hj=>(by cases hj),[],o1,⟨zbl _,fun p hp=>(by cases hp)⟩,by rw[hgd,k5];exact fun l n=>rfl⟩
    have eO:osA.map (SO.den ρ')=osA.map (SO.den ρ):=zav fun o ho=>SO.bG k2 (List.all_eq_true.1 hb2 o ho);refine⟨G,gr Γ Γ.ng dn (Γ.ng+1),ρ',_,sZ.refl _,k1,k2,?_,yH ⟨⟨k9.fs,k9.bs,k9.pw,k9.ats,k9.cU,k9.ne,k9.fz,fun p hp=>?_⟩,?_⟩ k7⟩
    ·rw[Lz];show s.nx<=s.nx+1+1;omega
    ·rcases List.mem_cons.1 hp with rfl|hp
     ·exact k8
     ·exact k9.sb p hp
    ·have:(Et (dm (aC (aC s)) (osA++[.am b (s.nx+1) k])) (s.nx+1,s.nx+1,true) (s.nx+1,sub)).den ρ'=⟨(s.den ρ).L,osA.map (SO.den ρ)++[.am (ρ b).nn Γ.ng k],(s.den ρ).dQ,(Γ.ng,dn,true)::(s.den ρ).gs⟩:=by
       refine St.ext' (by have:=congrArg St.L k10;exact this) ?_ (by have:=congrArg St.dQ k10;exact this) ?_
       ·show (osA++[SO.am b (s.nx+1) k]).map (SO.den ρ')=_;rw[zat,eO,zbj];show _++[Own.am (ρ' b).nn (ρ' s.nx).nn k]=_;rw[k3,k2 b (av hb.2.2.2)]
       ·show ((ρ' s.nx).nn,(ρ' (s.nx+1)).gg,true)::_=_;rw[k3,k4];congr 1;have:=congrArg St.gs k10;exact this
     rw[this];exact hQ
  ·cases h
theorem uT {g dd:Nat}{dn:Gd}{w:Bool}{K2:Nat->SS->R}(hgw:jd s.gs g=some dd)(hle:(ρ dd).gg.Le dn)(hw:w=true->dn.fz=false)(hat:dn.at_=(ρ dd).gg.at_)(hd:Nat.blt dd s.nx=true)(hg:bJ s.nx g=true)(h:(fresh s K2).Ok)(hk:Ok c T G Γ ρ s) :
  ∃ρ',(K2 s.nx (aC s)).Ok/\cM s.nx ρ ρ'/\(ρ' s.nx).gg=dn/\Sat ρ' (aC s)/\∀ats cU fz,(∀p∈ats,Kc ρ' p)->(∀p∈cU,0<=p.2.1.ev ρ'/\(ρ' p.1).gg.fz=true/\(((ρ' p.1).gg.fl (p.2.1.ev ρ').toNat:Nat):Int)=p.2.2.ev ρ')->(∀d∈fz,(ρ' d).gg.fz=true)->Ok c T G (gr Γ (ig ρ g) dn Γ.ng) ρ' (pC (aC s) g s.nx w s.os ats cU fz (mj s.sb dd s.nx)):=by
 obtain⟨p1,p2,p3,p4⟩:=aA h hk (.g dn);have hgg:(ρ.up s.nx (.g dn) s.nx).gg=dn:=by rw[p4];rfl
 have eD:=(SS.bG (dB h) p2).1;have hdd:=p2 dd (av hd);have hmemg:=fQ hgw;obtain⟨g1,g2,g3⟩:=hk.q.gs (ig ρ g,(ρ dd).gg,true) (List.mem_map.2 ⟨(g,dd,true),hmemg,rfl⟩);have g2:Γ.gd (ig ρ g)=(ρ dd).gg:=g2;obtain⟨g3,g4,g5⟩:=g3 rfl;have g4:(ρ dd).gg.fz=false:=g4;refine⟨_,p1,p2,hgg,p3.sat,fun ats cU fz hats hfls hfz=>⟨⟨p3.sat.fs,p3.sat.bs,p3.sat.pw,fun p hp=>?_,fun p hp=>?_,p3.sat.ne,fun d hd=>?_,fun p hp=>?_⟩,?_⟩⟩
 ·rcases List.mem_append.1 hp with hp|hp
  ·exact hats p hp
  ·exact p3.sat.ats p hp
 ·rcases List.mem_append.1 hp with hp|hp
  ·exact hfls p hp
  ·exact p3.sat.cU p hp
 ·rcases List.mem_append.1 hd with hd|hd
  ·exact hfz d hd
  ·exact p3.sat.fz d hd
 ·rcases List.mem_append.1 hp with hp|hp
  ·exact tq (dd:=dd) (dn:=s.nx) (by rw[hgg,hdd];exact hle.sub) p3.sat.sb p hp
  ·exact p3.sat.sb p hp
 ·have hQ:=hk.q.Jc (g:=ig ρ g) (d0:=(ρ dd).gg) (dn:=dn) (w:=w) (gs':=(ig ρ g,dn,w)::(mi s).map fun p=>(ig ρ p.1,(ρ p.2.1).gg,p.2.2)) (List.mem_map.2 ⟨(g,dd,true),hmemg,rfl⟩) hle hw (fun _ _ _ _=>hat) (fun p hp=>by
    rcases List.mem_cons.1 hp with rfl|hp
    ·exact .inl rfl
    ·obtain⟨p0,h1,rfl⟩:=List.mem_map.1 hp;obtain⟨k1,k2⟩:=rK (g:=ig ρ g) hk h1 (by rw[g2];exact g4)
     exact .inr ⟨List.mem_map.2 ⟨p0,k1,rfl⟩,k2⟩)
  have:(pC (aC s) g s.nx w s.os ats cU fz (mj s.sb dd s.nx)).den (ρ.up s.nx (.g dn))=⟨(s.den ρ).L,(s.den ρ).os,(s.den ρ).dQ,(ig ρ g,dn,w)::(mi s).map fun p=>(ig ρ p.1,(ρ p.2.1).gg,p.2.2)⟩:=by
   refine St.ext' (by have:=congrArg St.L eD;exact this) (by have:=congrArg St.os eD;exact this) (by have:=congrArg St.dQ eD;exact this) ?_;show (ig (ρ.up s.nx (.g dn)) g,(ρ.up s.nx (.g dn) s.nx).gg,w)::(mi s).map (fun p=>(ig (ρ.up s.nx (.g dn)) p.1,(ρ.up s.nx (.g dn) p.2.1).gg,p.2.2))=_;rw[hgg,ba p2 hg];congr 1;refine zav fun p hp=>?_;have hs:=dB h;unfold SS.ok at hs;simp only[za,zb]at hs;have:=hs.2.2.2.1 p (List.mem_filter.1 hp).1;rw[ba p2 this.1,p2 _ (av this.2)]
  rw[this];exact hQ
theorem rL {g dd:Nat}{dn:Gd}{w:Bool}{K2:Nat->SS->R}(hgw:jd s.gs g=some dd)(hle:(ρ dd).gg.Le dn)(hw:w=true->dn.fz=false)(hat:dn.at_=(ρ dd).gg.at_)(hwn:dn.wn=(ρ dd).gg.wn)(hd:Nat.blt dd s.nx=true)(hg:bJ s.nx g=true)(h:(fresh s K2).Ok)(hk:Ok c T G Γ ρ s) :
  ∃ρ',(K2 s.nx (aC s)).Ok/\cM s.nx ρ ρ'/\(ρ' s.nx).gg=dn/\Sat ρ' (aC s)/\∀cU fz,(∀p∈cU,0<=p.2.1.ev ρ'/\(ρ' p.1).gg.fz=true/\(((ρ' p.1).gg.fl (p.2.1.ev ρ').toNat:Nat):Int)=p.2.2.ev ρ')->(∀d∈fz,(ρ' d).gg.fz=true)->Ok c T G (gr Γ (ig ρ g) dn Γ.ng) ρ' (pC (aC s) g s.nx w s.os (sy s dd s.nx) cU fz (mj s.sb dd s.nx)):=by
 obtain⟨ρ',p1,p2,p3,p4,p5⟩:=uT hgw hle hw hat hd hg h hk;have hdd:=p2 dd (av hd);refine⟨ρ',p1,p2,p3,p4,fun cU fz=>p5 (sy s dd s.nx) cU fz fun p hp=>?_⟩;obtain⟨q,h1,rfl⟩:=List.mem_map.1 hp;obtain⟨h2,h3⟩:=List.mem_filter.1 h1;have e:=ai h3;have:=p4.ats q h2;unfold Kc po at this ⊢;simp only[e,hdd]at this;simp only[p3,hat,hwn];exact this
theorem Gx {g k:Nat}{e:LE}{K:SS->R}(h:(C7 g k e s K).Ok)(hk:Ok c T G Γ ρ s):Ac c T G Γ s ρ K:=by
 unfold C7 at h;split at h
 ·rename_i dd hgw;cases hb:(bo s (e.sub (.a (.gn dd k)))&&(e.lt s.nx&&(Nat.blt dd s.nx&&bJ s.nx g)))with
  |false=>rw[hb]at h;cases h
  |true =>
   rw[hb]at h;simp only[cond_true]at h;simp only[za]at hb;obtain⟨b1,b2,b3,b4⟩:=hb;have e1:=ax b1 hk.sat;rw[LE.aw,LE.aQ]at e1;have e1:0<=e.ev ρ-(((ρ dd).gg.n k:Nat):Int):=e1
   have hfz:(ρ dd).gg.fz=false:=by
    obtain⟨_,_,g3⟩:=hk.q.gs (ig ρ g,(ρ dd).gg,true) (List.mem_map.2 ⟨(g,dd,true),fQ hgw,rfl⟩);exact (g3 rfl).2.1
   have hnn:∀j,(ρ dd).gg.n j<=bif Nat.beq j k then (e.ev ρ).toNat else (ρ dd).gg.n j:=fun j=>by
    cases hj:Nat.beq j k with
    |true=>have:=ai hj;subst this;show _<=(e.ev ρ).toNat;omega
    |false=>exact zad _
   have hle:(ρ dd).gg.Le ⟨fun j=>bif Nat.beq j k then (e.ev ρ).toNat else (ρ dd).gg.n j,(ρ dd).gg.at_,(ρ dd).gg.fl,(ρ dd).gg.fz,(ρ dd).gg.sub,(ρ dd).gg.wn,fun j h=>(ρ dd).gg.ww j (zam (hnn 2) h),(ρ dd).gg.nm,fun j h=>(ρ dd).gg.wm j (zam (hnn 2) h)⟩:=by
    refine⟨hnn,fun _ _ _ h=>h,fun h=>?_,rfl,fun _ _ h=>h,fun _ _ h=>h⟩
    ·rw[hfz]at h;cases h
   obtain⟨ρ',p1,p2,p3,p4,p5⟩:=rL (dn:=⟨fun j=>bif Nat.beq j k then (e.ev ρ).toNat else (ρ dd).gg.n j,(ρ dd).gg.at_,(ρ dd).gg.fl,(ρ dd).gg.fz,(ρ dd).gg.sub,(ρ dd).gg.wn,fun j h=>(ρ dd).gg.ww j (zam (hnn 2) h),(ρ dd).gg.nm,fun j h=>(ρ dd).gg.wm j (zam (hnn 2) h)⟩) (w:=true) hgw hle (fun _=>hfz) rfl rfl b3 b4 h hk;have hdd:=p2 dd (av b3);refine⟨G,gr Γ (ig ρ g) ⟨fun j=>bif Nat.beq j k then (e.ev ρ).toNat else (ρ dd).gg.n j,(ρ dd).gg.at_,(ρ dd).gg.fl,(ρ dd).gg.fz,(ρ dd).gg.sub,(ρ dd).gg.wn,fun j h=>(ρ dd).gg.ww j (zam (hnn 2) h),(ρ dd).gg.nm,fun j h=>(ρ dd).gg.wm j (zam (hnn 2) h)⟩ Γ.ng,ρ',_,sZ.refl _,p1,p2,?_,Ok.jR ?_ ?_⟩
   ·show s.nx<=(Bi _ _ _ _).nx;rw[yI];show s.nx<=s.nx+1;omega
   ·have key:∀(ks:List Nat) (s0:SS),(∀j∈ks,Nat.beq j k=false)->Ok c T G (gr Γ (ig ρ g) ⟨fun j=>bif Nat.beq j k then (e.ev ρ).toNat else (ρ dd).gg.n j,(ρ dd).gg.at_,(ρ dd).gg.fl,(ρ dd).gg.fz,(ρ dd).gg.sub,(ρ dd).gg.wn,fun j h=>(ρ dd).gg.ww j (zam (hnn 2) h),(ρ dd).gg.nm,fun j h=>(ρ dd).gg.wm j (zam (hnn 2) h)⟩ Γ.ng) ρ' s0->Ok c T G (gr Γ (ig ρ g) ⟨fun j=>bif Nat.beq j k then (e.ev ρ).toNat else (ρ dd).gg.n j,(ρ dd).gg.at_,(ρ dd).gg.fl,(ρ dd).gg.fz,(ρ dd).gg.sub,(ρ dd).gg.wn,fun j h=>(ρ dd).gg.ww j (zam (hnn 2) h),(ρ dd).gg.nm,fun j h=>(ρ dd).gg.wm j (zam (hnn 2) h)⟩ Γ.ng) ρ' (Bi s0 dd s.nx ks):=fun ks s0 hks h0=>by
      induction ks with
      |nil=>exact h0
      |cons j ks ih =>
       refine (ih fun j hj=>hks j (zaa _ hj)).jR ?_;rw[LE.aQ,LE.aQ];show (((ρ' s.nx).gg.n j:Nat):Int)=(((ρ' dd).gg.n j:Nat):Int);rw[p3,hdd];show ((bif Nat.beq j k then (e.ev ρ).toNat else (ρ dd).gg.n j:Nat):Int)=_;rw[hks j (zac ..)];rfl
    exact key _ _ (fun j hj=>by have:=(List.mem_filter.1 hj).2;rw[zaj]at this;exact this) (p5 [] [] (fun p hp=>by cases hp) (fun d hd=>by cases hd))
   ·rw[LE.aQ,LE.bG p2 b2];show (((ρ' s.nx).gg.n k:Nat):Int)=_;rw[p3];show ((bif Nat.beq k k then (e.ev ρ).toNat else (ρ dd).gg.n k:Nat):Int)=_;rw[zcf];show (((e.ev ρ).toNat:Nat):Int)=_;omega
 ·cases h
theorem Jk {g:Nat}{K:SS->R}(h:(Jh g s K).Ok)(hk:Ok c T G Γ ρ s):Ac c T G Γ s ρ K:=by
 unfold Jh at h;split at h
 ·rename_i dd hgw;cases hb:(Nat.blt dd s.nx&&bJ s.nx g)with
  |false=>rw[hb]at h;cases h
  |true =>
   rw[hb]at h;simp only[cond_true]at h;rw[za]at hb
   have hfz:(ρ dd).gg.fz=false:=by
    obtain⟨_,_,g3⟩:=hk.q.gs (ig ρ g,(ρ dd).gg,true) (List.mem_map.2 ⟨(g,dd,true),fQ hgw,rfl⟩);exact (g3 rfl).2.1
   obtain⟨ρ',p1,p2,p3,p4,p5⟩:=rL (dn:=⟨(ρ dd).gg.n,(ρ dd).gg.at_,(ρ dd).gg.fl,true,(ρ dd).gg.sub,(ρ dd).gg.wn,(ρ dd).gg.ww,(ρ dd).gg.nm,(ρ dd).gg.wm⟩) (w:=false) hgw ⟨fun j=>zad _,fun _ _ _ h=>h,fun h=>(by rw[hfz]at h;cases h),rfl,fun _ _ h=>h,fun _ _ h=>h⟩ (fun h=>by cases h) rfl rfl hb.1 hb.2 h hk;have hdd:=p2 dd (av hb.1);refine⟨G,gr Γ (ig ρ g) ⟨(ρ dd).gg.n,(ρ dd).gg.at_,(ρ dd).gg.fl,true,(ρ dd).gg.sub,(ρ dd).gg.wn,(ρ dd).gg.ww,(ρ dd).gg.nm,(ρ dd).gg.wm⟩ Γ.ng,ρ',_,sZ.refl _,p1,p2,?_,uS (p5 [] [s.nx] (fun p hp=>by cases hp) (fun d hd=>by rw[List.mem_singleton.1 hd,p3])) fun k _=>by rw[p3,hdd]⟩;rw[yI];show s.nx<=s.nx+1;omega
 ·cases h
end
end Go.Rd
namespace Go.Rd
open Go.aI Go.RowKit Go.Rt
def SV.vy (f:SC->SC):SV->SV
 |.v ag cs=>.v ag (cs.map f)
 |.dC l=>.dC (l.map fun p=>(p.1,p.2.map f))
 |.undef=>.undef
 |.ve q bs cs=>.ve q (bs.map f) (cs.map f)
 |.slt q e sz=>.slt q e sz
 |.yl q=>.yl q
def SO.vy (f:SC->SC):SO->SO
 |.loc b el cs=>.loc b el (cs.map f)
 |o=>o
def yJ (f:SC->SC)(s:SS):SS:=⟨s.nx,s.L.map fun p=>(p.1,p.2.vy f),s.os.map (SO.vy f),s.ty,s.gs,s.fs,s.bs,s.pw,s.ats,s.cU,s.ne,s.fz,s.sb⟩
section
variable {c:Cx}{T:Tm}{G G':GH}{Γ Γ':dy}{ρ ρ':aZ}{s s':SS}{cf:Cf}{ops:Array Oper}{i d:Nat}
theorem rM {f:SC->SC}(h:∀x,(f x).den ρ=x.den ρ)(cs:List SC):aB ρ (cs.map f)=aB ρ cs:=by
 unfold aB;rw[zdx];exact zav fun x _=>h x
theorem wV {f:SC->SC}(h:∀x,(f x).den ρ=x.den ρ)(p:Bool×List SC):dS ρ (p.1,p.2.map f)=dS ρ p:=by unfold dS;simp only[rM h]
theorem SV.uU {f:SC->SC}(h:∀x,(f x).den ρ=x.den ρ)(v:SV):(v.vy f).den ρ=v.den ρ:=by
 cases v with
 |v ag cs=>exact wV h (ag,cs)
 |dC l =>
  show AV.dC ((l.map fun p=>(p.1,p.2.map f)).map (dS ρ))=.dC (l.map (dS ρ));rw[zdx];congr 1;exact zav fun p _=>wV h p
 |undef=>rfl
 |ve q bs cs=>simp only[SV.vy,SV.den,rM h]
 |slt q e sz=>rfl
 |yl q=>rfl
theorem SO.uU {f:SC->SC}(h:∀x,(f x).den ρ=x.den ρ)(o:SO):(o.vy f).den ρ=o.den ρ:=by
 cases o with
 |loc b el cs=>simp only[SO.vy,SO.den,rM h]
 |_=>rfl
theorem Jl {f:SC->SC}(h:∀x,(f x).den ρ=x.den ρ):(yJ f s).den ρ=s.den ρ:=by
 refine St.ext' ?_ ?_ rfl rfl
 ·show (s.L.map fun p=>(p.1,p.2.vy f)).map (fun p=>(p.1,p.2.den ρ))=s.L.map fun p=>(p.1,p.2.den ρ);rw[zdx];exact zav fun p _=>by show (p.1,(p.2.vy f).den ρ)=_;rw[SV.uU h]
 ·show (s.os.map (SO.vy f)).map (SO.den ρ)=s.os.map (SO.den ρ);rw[zdx];exact zav fun o _=>SO.uU h o
theorem Ok.yJ {f:SC->SC}(hk:Ok c T G Γ ρ s)(h:∀x,(f x).den ρ=x.den ρ):Ok c T G Γ ρ (yJ f s):=⟨⟨hk.sat.fs,hk.sat.bs,hk.sat.pw,hk.sat.ats,hk.sat.cU,hk.sat.ne,hk.sat.fz,hk.sat.sb⟩,by rw[Jl h];exact hk.q⟩
def Jm (b x:Nat):SC->SC
 |.cu b' o=>bif Nat.beq b' b then (bif Nat.beq o 0 then .ref x else .vd x o)else .cu b' o
 |c=>c
def Jn (b x:Nat):SC->SC
 |.cV b'=>bif Nat.beq b' b then .ref x else .cV b'
 |c=>c
def Jo (y x:Nat):SC->SC
 |.ref y'=>bif Nat.beq y' y then .ref x else .ref y'
 |c=>c
theorem C8 {b x:Nat}(h:(ρ x).vv=.cu (ρ b).nn 0)(q:SC):(Jm b x q).den ρ=q.den ρ:=by
 cases q<;>first|rfl|skip
 rename_i b' o;show (bif Nat.beq b' b then (bif Nat.beq o 0 then SC.ref x else .vd x o)else .cu b' o).den ρ=_;cases hb:Nat.beq b' b with
 |false=>rfl
 |true =>
  have:=ai hb;subst this;cases ho:Nat.beq o 0 with
  |true=>have:=ai ho;subst this;show (ρ x).vv=_;rw[h];rfl
  |false=>show mH (ρ x).vv o=.cu (ρ b').nn o;rw[h];show AV.cu _ (0+o)=_;rw[zaq]
theorem C9 {b x:Nat}(h:(ρ x).vv=.cV (ρ b).nn)(q:SC):(Jn b x q).den ρ=q.den ρ:=by
 cases q<;>first|rfl|skip
 rename_i b';show (bif Nat.beq b' b then SC.ref x else .cV b').den ρ=_;cases hb:Nat.beq b' b with
 |false=>rfl
 |true=>have:=ai hb;subst this;show (ρ x).vv=_;rw[h];rfl
theorem Da {y x:Nat}(h:(ρ x).vv=(ρ y).vv)(q:SC):(Jo y x q).den ρ=q.den ρ:=by
 cases q<;>first|rfl|skip
 rename_i b';show (bif Nat.beq b' y then SC.ref x else .ref b').den ρ=_;cases hb:Nat.beq b' y with
 |false=>rfl
 |true=>have:=ai hb;subst this;exact h
def Ry (b:Nat):SO->Bool|.loc y _ _=>Nat.beq y b|_=>false
def Db (cf:Cf)(b cc g:Nat)(s:SS)(K:SS->R):R:=match pB (Ry b) s.os with
 |some (.loc _ el cs,osA)=>bif Nat.beq el (cf.Φ.ty cc)&&((cf.Φ.gv cc&&!cf.Φ.raw cc)&&(Nat.beq cs.length (ae cf.P el)&&(pr s g&&(bJ s.nx g&&(Nat.blt b s.nx&&osA.all (SO.lt s.nx))))))then
  (match pA cf s g (ghost s.gs g) (.k 0) (cf.Φ.ks cc) cs with
   |some os=>bif bo s ((LE.k WU).sub (iG os))then fresh s fun x s=>K (yJ (Jm b x) (aY (dm s osA) (.pt x cc g)))else .bad 240 s
   |none=>.bad 241 s)
  else .bad 242 s
 |_=>.bad 243 s
theorem Gy {b cc g:Nat}{K:SS->R}(hP:cf.P=c.P)(hΦ:cf.Φ=c.Φ)(h:(Db cf b cc g s K).Ok)(hk:Ok c T G Γ ρ s):Ac c T G Γ s ρ K:=by
 unfold Db at h;rw[hP,hΦ]at h;split at h
 ·rename_i b' el cs osA hr;obtain⟨r1,r2⟩:=gj hr;have hbb:b'=b:=ai r1;subst hbb;cases hb:(Nat.beq el (c.Φ.ty cc)&&((c.Φ.gv cc&&!c.Φ.raw cc)&&(Nat.beq cs.length (ae c.P el)&&(pr s g&&(bJ s.nx g&&(Nat.blt b' s.nx&&osA.all (SO.lt s.nx)))))))with
  |false=>rw[hb]at h;cases h
  |true =>
   rw[hb]at h;simp only[cond_true]at h;simp only[za,zaj]at hb;obtain⟨b1,⟨b2,hrw⟩,b3,b4,b5,b6,b7⟩:=hb;have b1:=ai b1;subst b1;have b3:=ai b3;cases hch:pA cf s g (ghost s.gs g) (.k 0) (c.Φ.ks cc) cs with
   |none=>rw[hch]at h;cases h
   |some os =>
    rw[hch]at h;simp only at h;cases hw:bo s ((LE.k WU).sub (iG os))with
    |false=>rw[hw]at h;cases h
    |true =>
     rw[hw]at h;simp only[cond_true]at h;obtain⟨fs,w1,w2,w3⟩:=mh hΦ hk (fun dv h=>cR h hk) (J:=0) (by rw[LE.bz];exact⟨zch _,rfl⟩) hch;have hwu:=ax hw hk.sat;rw[LE.aw,LE.bz,w2]at hwu;have kM:(aB ρ cs).length=cs.length:=by simp[aB]
     obtain⟨hG,hm⟩:=hk.own (r2.mem_iff.2 (by simp:SO.loc b' (c.Φ.ty cc) cs∈osA++[.loc b' (c.Φ.ty cc) cs]));have hpd:=e7 r2 ρ;rw[zat,zbj]at hpd;have hglt:ig ρ g<Γ.ng:=gJ b4 hk
     have hQ:=hk.q.UD (osA:=osA.map (SO.den ρ)) (o:=SO.den ρ (.loc b' (c.Φ.ty cc) cs)) (b:=(ρ b').nn) (y:=.cells cc (ig ρ g) [WU]) (g':=.cells .data (c.Φ.ty cc) (aB ρ cs).length (aB ρ cs)) (tys':=[.pt (.cu (ρ b').nn 0) cc (ig ρ g)]) hpd rfl hm (fun _ _ _ h=>by rw[hG]at h;cases h) (fun _ _ _ h=>by rw[hG]at h;cases h)
      (fun hr hl=>⟨⟨hglt,hrw⟩,fun _ m hm=>List.mem_singleton.1 hm,_,_,au _ _ _,by rw[kM,b3];simp,fun j m hj=>by
       cases j with
       |succ j=>simp at hj
       |zero =>
        simp only[zbf,Option.some.injEq]at hj;subst hj;rw[zbw,zc,zbz (by rw[kM,b3];exact zad _)]
        exact eT.le ⟨fs,w1,by omega,w3⟩ hr hl hglt⟩) (fun f hf=>by
       rw[List.mem_singleton.1 hf]
       exact⟨(ρ b').nn,[WU],rfl,updΓ_same _ _ _,by simp⟩)
     obtain⟨p1,p2,p3,p4⟩:=aA h hk (.v (.cu (ρ b').nn 0) []);generalize hU:U.v (.cu (ρ b').nn 0) []=uu at p1 p2 p3 p4;have hv':(ρ.up s.nx uu s.nx).vv=.cu (ρ b').nn 0:=by rw[p4,<-hU];rfl
     have eD:=(SS.bG (dB h) p2).1;have eO:osA.map (SO.den (ρ.up s.nx uu))=osA.map (SO.den ρ):=zav fun o ho=>SO.bG p2 (List.all_eq_true.1 b7 o ho);refine⟨_,_,ρ.up s.nx uu,_,fun k=>?_,p1,p2,zan _,Ok.yJ (G:=dj G (ρ b').nn (.cells .data (c.Φ.ty cc) (aB ρ cs).length (aB ρ cs))) (Γ:=updΓ Γ (ρ b').nn (.cells cc (ig ρ g) [WU])) ⟨⟨p3.sat.fs,p3.sat.bs,p3.sat.pw,p3.sat.ats,p3.sat.cU,p3.sat.ne,p3.sat.fz,p3.sat.sb⟩,?_⟩ (C8 ?_)⟩
     ·by_cases e:k=(ρ b').nn
      ·subst e;exact .inr ⟨_,_,_,hG,au _ _ _⟩
      ·exact .inl (aV e)
     ·have:(aY (dm (aC s) osA) (.pt s.nx cc g)).den (ρ.up s.nx uu)=⟨(s.den ρ).L,osA.map (SO.den ρ),.pt (.cu (ρ b').nn 0) cc (ig ρ g)::(s.den ρ).dQ,(s.den ρ).gs⟩:=by
        refine St.ext' (by have:=congrArg St.L eD;exact this) eO ?_ (by have:=congrArg St.gs eD;exact this);show c6.den _ (.pt s.nx cc g)::s.ty.map (c6.den _)=_;rw[show s.ty.map (c6.den (ρ.up s.nx uu))=(s.den ρ).dQ from congrArg St.dQ eD];simp only[c6.den];rw[hv',ba p2 b5]
      rw[this];exact hQ
     ·rw[hv',p2 b' (av b6)]
 ·cases h
def isMap (b:Nat):SO->Bool|.em y _=>Nat.beq y b|.am y _ _=>Nat.beq y b|.im y _=>Nat.beq y b|.km y _ _ _=>Nat.beq y b|.kq y _ _ _ _=>Nat.beq y b|_=>false
def Rz (g:Nat)(os:List SO):Bool:=os.any fun o=>match o with|.am _ g' _=>Nat.beq g' g|_=>false
def LA (cf:Cf)(cc g:Nat)(osA:List SO)(s:SS)(o:SO):Bool:=match o,cf.Φ.mv cc,ghost s.gs g with
 |.am _ g' q,.F5 q',some d=>Nat.beq g' g&&(Nat.beq q q'&&(F7 (cf.Φ.pk cc) .str&&s.fz.contains d))
 |.im _ e,.kd (.nat k),some d=>F7 (cf.Φ.pk cc) .str&&bo s ((LE.a (.gn d k)).sub e)
 |.em _ pk,.kd _,_=>F7 (cf.Φ.pk cc) pk
 |.em _ pk,.unit,_=>F7 (cf.Φ.pk cc) pk
 |.em _ pk,.Ii,some d=>F7 (cf.Φ.pk cc) .pair&&(s.fz.contains d&&Rz g osA)
 |.km _ c' g' _,_,_=>Nat.beq c' cc&&Nat.beq g' g
 |.kq _ c' g' _ _,_,_=>Nat.beq c' cc&&Nat.beq g' g
 |_,_,_=>false
def Dc (cf:Cf)(b cc g:Nat)(s:SS)(K:SS->R):R:=match pB (isMap b) s.os with
 |some (o,osA)=>bif LA cf cc g osA s o&&(pr s g&&(bJ s.nx g&&(Nat.blt b s.nx&&osA.all (SO.lt s.nx))))then
  fresh s fun x s=>K (yJ (Jn b x) (aY (dm s osA) (.mp x cc g)))
  else .bad 244 s
 |none=>.bad 245 s
theorem Gz {p:AV×AV->Prop}:∀q∈([]:List (AV×AV)),p q:=fun q h=>by cases h
theorem LB {b cc g:Nat}{osA:List SO}{o:SO}(hΦ:cf.Φ=c.Φ)(h:LA cf cc g osA s o=true)(hm:isMap b o=true)(hA:∀o∈osA,o∈s.os)(ho:o∈s.os)(hk:Ok c T G Γ ρ s):(o.den ρ).aS=some (ρ b).nn/\Γ.m (ρ b).nn=none/\∃es,G (ρ b).nn=some (.map es)/\(∀p∈es,nf p.2)/\fP c.P c.Φ G Γ cc (ig ρ g) es:=by
 have hown:=hk.own ho;have strs:∀es:List (AV×AV),c.Φ.pk cc=.str->(∀p∈es,cK .str p.1)->∀p∈es,cK (c.Φ.pk cc) p.1:=fun es e h=>by rw[e];exact h
 unfold LA at h;rw[hΦ]at h;split at h
 ·rename_i y g' q q' dd hmv hgd;simp only[za]at h;have e1:=ai h.1;have e2:=ai h.2.1;have e3:=pj h.2.2.1;have e4:y=b:=ai hm;subst e1 e2 e4;obtain⟨o1,o0,obd,es,o2,⟨Ns,o3⟩,o4⟩:=hown;have hdd:=cR hgd hk;have hfz:=hk.sat.fz dd (List.contains_iff_mem.1 h.2.2.2);refine⟨rfl,o1,es,o2,fun p hp=>(o3 p hp).2,strs es e3 fun p hp=>(o3 p hp).1,?_⟩;rw[hmv];exact⟨Ns,e3,by rw[hdd];exact hfz,o4,obd⟩
 ·rename_i y e k dd hmv hgd;rw[za]at h;have e3:=pj h.1;have e4:y=b:=ai hm;subst e4;obtain⟨o1,es,o2,o3⟩:=hown;have hdd:=cR hgd hk;have he:=ax h.2 hk.sat;rw[LE.aw,LE.aQ]at he;have he:0<=(((ρ dd).gg.n k:Nat):Int)-e.ev ρ:=he;refine⟨rfl,o1,es,o2,fun p hp=>?_,strs es e3 fun p hp=>(o3 p hp).1,?_⟩
  ·obtain⟨_,n,h1,_⟩:=o3 p hp;rw[h1];exact kL _ _
  ·rw[hmv];intro p hp;obtain⟨_,n,h1,h2⟩:=o3 p hp;exact⟨[],⟨⟨n,h1,by rw[hdd];omega⟩,rfl⟩,fun f hf=>by cases hf⟩
 ·rename_i y pk kd hmv;have e4:y=b:=ai hm;subst e4;obtain⟨o1,o2,o3⟩:=hown;refine⟨rfl,o2,[],o1,Gz,fun p hp=>(by cases hp),?_⟩;rw[hmv];exact Gz
 ·rename_i y pk hmv;have e4:y=b:=ai hm;subst e4;obtain⟨o1,o2,o3⟩:=hown;refine⟨rfl,o2,[],o1,Gz,fun p hp=>(by cases hp),?_⟩;rw[hmv];exact Gz
 ·rename_i y pk dd hmv hgd;simp only[za]at h;have e3:=pj h.1;have e4:y=b:=ai hm;subst e4;obtain⟨o1,o2,o3⟩:=hown;have hdd:=cR hgd hk;have hfz:=hk.sat.fz dd (List.contains_iff_mem.1 h.2.1);refine⟨rfl,o2,[],o1,Gz,fun p hp=>(by cases hp),?_⟩;rw[hmv];refine⟨e3,by rw[hdd];exact hfz,fun l n l' n' hs=>?_,Gz⟩;obtain⟨oa,m1,m2⟩:=List.any_eq_true.1 h.2.2;cases oa<;>first|(cases m2;done)|skip
  rename_i b2 g' k2;have:=ai m2;subst this;obtain⟨_,_,_,es,q2,q3,q4⟩:=hk.own (hA _ m1);have h1:=q4 l n;have h2:=q4 l' n';rw[qJ (pk:=.str) (x:=.str l n) (k:=.str l' n') ⟨l,n,rfl⟩ ⟨l',n',rfl⟩ hs fun p hp=>(q3.2 p hp).1,h2]at h1;cases ha:(Γ.gd (ig ρ g')).at_ l n with
  |none=>rw[ha]at h1;cases hb:(Γ.gd (ig ρ g')).at_ l' n' with
   |none=>rfl
   |some j=>rw[hb]at h1;cases h1
  |some i=>rw[ha]at h1;cases hb:(Γ.gd (ig ρ g')).at_ l' n' with
   |none=>rw[hb]at h1;cases h1
   |some j =>
    rw[hb]at h1;simp only[zbk,Option.some.injEq,AV.int.injEq,true_and]at h1;have h1:(j:Int)=(i:Int):=h1;congr 1;omega
 ·rename_i _ _ y c' g' n;rw[za]at h;have e1:=ai h.1;have e2:=ai h.2;have e4:y=b:=ai hm;subst e1 e2 e4;obtain⟨o1,_,_,es,o4,_,o6,o7⟩:=hown;exact⟨rfl,o1,es,o4,o6,o7⟩
 ·rename_i _ _ y c' g' n q;rw[za]at h;have e1:=ai h.1;have e2:=ai h.2;have e4:y=b:=ai hm;subst e1 e2 e4;obtain⟨o1,_,_,es,o4,_,o6,o7,_⟩:=hown;exact⟨rfl,o1,es,o4,o6,o7⟩
 ·cases h
theorem GA {b cc g:Nat}{K:SS->R}(hΦ:cf.Φ=c.Φ)(h:(Dc cf b cc g s K).Ok)(hk:Ok c T G Γ ρ s):Ac c T G Γ s ρ K:=by
 unfold Dc at h;split at h
 ·rename_i o osA hr;obtain⟨r1,r2⟩:=gj hr;cases hb:(LA cf cc g osA s o&&(pr s g&&(bJ s.nx g&&(Nat.blt b s.nx&&osA.all (SO.lt s.nx)))))with
  |false=>rw[hb]at h;cases h
  |true =>
   rw[hb]at h;simp only[cond_true]at h;simp only[za]at hb;obtain⟨b1,b2,b3,b4,b5⟩:=hb;obtain⟨hblk,hm,es,hG,hnf,hM⟩:=LB hΦ b1 r1 (fun o ho=>r2.mem_iff.2 (by simp[ho])) (r2.mem_iff.2 (by simp)) hk;have hpd:=e7 r2 ρ;rw[zat,zbj]at hpd;have hself:dj G (ρ b).nn (.map es)=G:=Bg hG;have hglt:ig ρ g<Γ.ng:=gJ b2 hk
   have hQ:=hk.q.UD (osA:=osA.map (SO.den ρ)) (o:=SO.den ρ o) (b:=(ρ b).nn) (y:=.map cc (ig ρ g)) (g':=.map es) (tys':=[.mp (.cV (ρ b).nn) cc (ig ρ g)]) hpd hblk hm (fun _ _ _ h=>by rw[hG]at h;cases h) (fun _ _ _ h=>by rw[hG]at h;cases h)
    (fun hr hl=>⟨hglt,es,au _ _ _,hnf,hM.le hr hl rfl⟩) (fun f hf=>by
     rw[List.mem_singleton.1 hf]
     exact⟨(ρ b).nn,rfl,updΓ_same _ _ _⟩)
   rw[hself]at hQ;obtain⟨p1,p2,p3,p4⟩:=aA h hk (.v (.cV (ρ b).nn) []);generalize hU:U.v (.cV (ρ b).nn) []=uu at p1 p2 p3 p4;have hv':(ρ.up s.nx uu s.nx).vv=.cV (ρ b).nn:=by rw[p4,<-hU];rfl
   have eD:=(SS.bG (dB h) p2).1;have eO:osA.map (SO.den (ρ.up s.nx uu))=osA.map (SO.den ρ):=zav fun o ho=>SO.bG p2 (List.all_eq_true.1 b5 o ho);refine⟨G,_,ρ.up s.nx uu,_,sZ.refl _,p1,p2,zan _,Ok.yJ (Γ:=updΓ Γ (ρ b).nn (.map cc (ig ρ g))) ⟨⟨p3.sat.fs,p3.sat.bs,p3.sat.pw,p3.sat.ats,p3.sat.cU,p3.sat.ne,p3.sat.fz,p3.sat.sb⟩,?_⟩ (C9 ?_)⟩
   ·have:(aY (dm (aC s) osA) (.mp s.nx cc g)).den (ρ.up s.nx uu)=⟨(s.den ρ).L,osA.map (SO.den ρ),.mp (.cV (ρ b).nn) cc (ig ρ g)::(s.den ρ).dQ,(s.den ρ).gs⟩:=by
      refine St.ext' (by have:=congrArg St.L eD;exact this) eO ?_ (by have:=congrArg St.gs eD;exact this);show c6.den _ (.mp s.nx cc g)::s.ty.map (c6.den _)=_;rw[show s.ty.map (c6.den (ρ.up s.nx uu))=(s.den ρ).dQ from congrArg St.dQ eD];simp only[c6.den];rw[hv',ba p2 b3]
    rw[this];exact hQ
   ·rw[hv',p2 b (av b4)]
 ·cases h
end
end Go.Rd
