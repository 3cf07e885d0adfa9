/- Part Xda of the proof of CollectEnds: no condition. -/
import Derived.Test.YtmabojcaklojhaaGreatXad
set_option linter.unusedSimpArgs false
set_option linter.unusedVariables false
namespace Go.Rt
open Go.aI Go.RowKit
inductive K2 where
 |int (k:IntKind)|nat (b:Nat)|pos (b:Nat)|str|rp|sU|vx (b:Nat)|bool|oz (k:FloatKind)
 |sl (c:Nat)|BD (c b:Nat)|x5 (c b:Nat)|yY (c b:Nat)|AR (c:Nat)
 |rq (b:Nat)|DU (c w:Nat)|Ct (c w:Nat)
 |ptr (c:Nat)|DV (c:Nat)|mp (c:Nat)|DW (c:Nat)|bad
inductive MV where|kd (k:K2)|unit|F5 (b:Nat)|Ii|kn (b:Nat) (k:K2)
structure Forms where
 ks:Nat->List K2
 ty:Nat->TypeId
 gv:Nat->Bool
 dep:Nat->Bool
 via:Nat->Bool
 pk:Nat->KK
 mv:Nat->MV
 raw:Nat->Bool
 im:Nat->Bool
 fr:Nat->Bool
structure Gd where
 n:Nat->Nat
 at_:Nat->Nat->Option Nat
 fl:Nat->Nat
 fz:Bool
 sub:Nat
 wn:Nat->Option Nat
 ww:∀j,n 2<=j->wn j=none
 nm:Nat->Option (Nat×Nat)
 wm:∀j,n 2<=j->nm j=none
def Gd.d0:Gd:=⟨fun _=>0,fun _ _=>none,fun _=>0,false,0,fun _=>none,fun _ _=>rfl,fun _=>none,fun _ _=>rfl⟩
structure Gd.Le (a b:Gd):Prop where
 n:∀k,a.n k<=b.n k
 at_:∀l m j,a.at_ l m=some j->b.at_ l m=some j
 fz:a.fz=true->b=a
 sub:b.sub=a.sub
 wn:∀j q,a.wn j=some q->b.wn j=some q
 nm:∀j q,a.nm j=some q->b.nm j=some q
theorem Gd.Le.refl (a:Gd):a.Le a:=⟨fun _=>zad _,fun _ _ _ h=>h,fun _=>rfl,rfl,fun _ _ h=>h,fun _ _ h=>h⟩
theorem Gd.Le.trans {a b c:Gd}(h:a.Le b)(h':b.Le c):a.Le c:=⟨fun k=>zam (h.n k) (h'.n k),fun l m j e=>h'.at_ l m j (h.at_ l m j e),fun e=>by have:=h.fz e;subst this;exact h'.fz e,h'.sub.trans h.sub,fun j q e=>h'.wn j q (h.wn j q e),fun j q e=>h'.nm j q (h.nm j q e)⟩
def WU:Nat:=2097152
def jB:Nat:=2147483648
def jb:Nat:=1099511627776
def gi (Φ:Forms)(d:Gd)(g c:Nat):Nat:=bif Φ.via c then d.sub else bif Φ.dep c then g else 0
inductive TF where
 |sl (v:AV) (c g:Nat) (ns:List Nat)
 |pt (v:AV) (c g:Nat)
 |mp (v:AV) (c g:Nat)
 |el (v:AV) (c j off:Nat) (x:AV)
 |sj (g j:Nat) (v:AV)
 |wn (q:Nat)
def TF.v:TF->AV|.sl v _ _ _=>v|.pt v _ _=>v|.mp v _ _=>v|.el v _ _ _ _=>v|.wn _=>.ab|.sj _ _ _=>.ab
def sw (Φ:Forms):TF->Nat
 |.sl _ c _ ns=>bif Φ.fr c then 0 else ns.sum+ns.length
 |.wn q=>q
 |_=>0
def iO (Φ:Forms)(fs:List TF):Nat:=(fs.map (sw Φ)).sum
theorem iE (Φ:Forms)(a b:List TF):iO Φ (a++b)=iO Φ a+iO Φ b:=by simp[iO]
def Kv (Φ:Forms)(d:Gd)(g j:Nat):K2->AV->List TF->Prop
 |.int k,v,f=>(∃z,v=.int k z)/\f=[]
 |.nat b,v,f=>(∃n:Nat,v=.int .i64 (.ofNat n)/\n<d.n b)/\f=[]
 |.pos b,v,f=>(∃n:Nat,v=.int .i64 (.ofNat n)/\1<=n/\n<=d.n b)/\f=[]
 |.str,v,f=>(∃l n,v=.str l n/\l<=jb)/\f=[]
 |.rp,v,f=>(∃l n,v=.str l n/\l<=jb/\d.at_ l n=some j)/\f=[]
 |.sU,v,f=>(∃l n,v=.str l n/\l<=jb/\d.nm j=some (l,n))/\f=[]
 |.vx b,v,f=>(∃l n,v=.str l n/\l<=jb/\l<=b)/\f=[]
 |.bool,v,f=>(∃b,v=.bool b)/\f=[]
 |.oz k,v,f=>(∃b,v=.float k b)/\f=[]
 |.sl c,v,f=>∃ns,f=[.sl v c (gi Φ d g c) ns]
 |.BD c b,v,f=>∃ns:List Nat,f=[.sl v c (gi Φ d g c) ns]/\ns.length<=b
 |.x5 c b,v,f=>∃ns:List Nat,f=[.sl v c (gi Φ d g c) ns]/\ns.length<=d.n b
 |.yY c b,v,f=>∃ns:List Nat,f=[.sl v c (gi Φ d g c) ns]/\d.fz=true/\ns.length=d.n b
 |.AR c,v,f=>∃ns:List Nat,f=[.sl v c (gi Φ d g c) ns]/\d.fz=true/\ns.length=d.fl j
 |.rq b,v,f=>∃n q:Nat,v=.int .i64 (.ofNat n)/\n<d.n b/\d.wn n=some q/\f=[.wn q]
 |.DU c w,v,f=>∃ns:List Nat,f=[.sl v c (gi Φ d g c) ns]/\ns.sum+ns.length<=w/\∃q,d.wn j=some q/\ns.sum+ns.length<=q
 |.Ct c w,v,f=>∃ns:List Nat,f=[.sl v c (gi Φ d g c) ns]/\ns.sum+ns.length<=w
 |.ptr c,v,f=>f=[.pt v c (gi Φ d g c)]
 |.DV c,v,f=>(v=.dY/\f=[])∨f=[.pt v c (gi Φ d g c)]
 |.mp c,v,f=>f=[.mp v c (gi Φ d g c)]
 |.DW c,v,f=>(v=.bg/\f=[])∨f=[.mp v c (gi Φ d g c)]
 |.bad,_,_=>False
def ia (Φ:Forms)(d:Gd)(g j:Nat):List K2->List AV->List TF->Prop
 | [],cs,fs=>cs=[]/\fs=[]
 |k::ks,cs,fs=>∃v cs' f fs',cs=v::cs'/\fs=f++fs'/\Kv Φ d g j k v f/\ia Φ d g j ks cs' fs'
theorem oA {Φ:Forms}{d d':Gd}(h:d.Le d')(g c:Nat):gi Φ d' g c=gi Φ d g c:=by unfold gi;rw[h.sub]
theorem Kv.le {Φ:Forms}{d d':Gd}{g j:Nat}(h:d.Le d'){k:K2}{v:AV}{f:List TF}(hk:Kv Φ d g j k v f):Kv Φ d' g j k v f:=by
 cases k with
 |nat b=>obtain⟨⟨n,h1,h2⟩,h3⟩:=hk;exact⟨⟨n,h1,zaw h2 (h.n b)⟩,h3⟩
 |pos b=>obtain⟨⟨n,h1,h0,h2⟩,h3⟩:=hk;exact⟨⟨n,h1,h0,zam h2 (h.n b)⟩,h3⟩
 |rp=>obtain⟨⟨l,n,h1,h0,h2⟩,h3⟩:=hk;exact⟨⟨l,n,h1,h0,h.at_ _ _ _ h2⟩,h3⟩
 |sl c=>obtain⟨ns,h1⟩:=hk;exact⟨ns,by rw[oA h];exact h1⟩
 |BD c b=>obtain⟨ns,h1,h2⟩:=hk;exact⟨ns,by rw[oA h];exact h1,h2⟩
 |x5 c b=>obtain⟨ns,h1,h2⟩:=hk;exact⟨ns,by rw[oA h];exact h1,zam h2 (h.n b)⟩
 |yY c b=>obtain⟨ns,h1,h2,h3⟩:=hk;have:=h.fz h2;subst this;exact⟨ns,h1,h2,h3⟩
 |AR c=>obtain⟨ns,h1,h2,h3⟩:=hk;have:=h.fz h2;subst this;exact⟨ns,h1,h2,h3⟩
 |rq b=>obtain⟨n,q,h1,h2,h3,h4⟩:=hk;exact⟨n,q,h1,zaw h2 (h.n b),h.wn _ _ h3,h4⟩
 |DU c w=>obtain⟨ns,h1,h2,q,h3,h4⟩:=hk;exact⟨ns,by rw[oA h];exact h1,h2,q,h.wn _ _ h3,h4⟩
 |Ct c w=>obtain⟨ns,h1,h2⟩:=hk;exact⟨ns,by rw[oA h];exact h1,h2⟩
 |ptr c=>show f=_;rw[oA h];exact hk
 |DV c=>rcases hk with hk|hk
        ·exact .inl hk
        ·exact .inr (by rw[oA h];exact hk)
 |mp c=>show f=_;rw[oA h];exact hk
 |DW c=>rcases hk with hk|hk
        ·exact .inl hk
        ·exact .inr (by rw[oA h];exact hk)
 |bad=>exact hk.elim
 |int k=>exact hk
 |str=>exact hk
 |sU=>obtain⟨⟨l,n,h1,h2,h3⟩,h4⟩:=hk;exact⟨⟨l,n,h1,h2,h.nm _ _ h3⟩,h4⟩
 |vx b=>exact hk
 |bool=>exact hk
 |oz k=>exact hk
theorem ia.le {Φ:Forms}{d d':Gd}{g j:Nat}(h:d.Le d'):∀{ks:List K2}{cs:List AV}{fs:List TF},ia Φ d g j ks cs fs->ia Φ d' g j ks cs fs
 | [],_,_,hk=>hk
 |k::ks,_,_,⟨v,cs',f,fs',h1,h2,h3,h4⟩=>⟨v,cs',f,fs',h1,h2,h3.le h,ia.le h h4⟩
theorem ia.len {Φ:Forms}{d:Gd}{g j:Nat}:∀{ks:List K2}{cs:List AV}{fs:List TF},ia Φ d g j ks cs fs->cs.length=ks.length
 | [],_,_,⟨h,_⟩=>by subst h;rfl
 |k::ks,_,_,⟨v,cs',f,fs',h1,h2,h3,h4⟩=>by subst h1;simp[ia.len h4]
theorem ia.split {Φ:Forms}{d:Gd}{g j:Nat}:∀{ks ks':List K2}{cs:List AV}{fs:List TF},ia Φ d g j (ks++ks') cs fs->∃f1 f2,fs=f1++f2/\ia Φ d g j ks (cs.take ks.length) f1/\ia Φ d g j ks' (cs.drop ks.length) f2
 | [],ks',cs,fs,h=>⟨[],fs,rfl,⟨by simp,rfl⟩,by simpa using h⟩
 |k::ks,ks',_,_,⟨v,cs',f,fs',h1,h2,h3,h4⟩=>by
  subst h1 h2;obtain⟨f1,f2,e1,e2,e3⟩:=ia.split h4;exact⟨f++f1,f2,by rw[e1,zbc],⟨v,_,f,f1,rfl,rfl,h3,e2⟩,e3⟩
theorem ia.join {Φ:Forms}{d:Gd}{g j:Nat}:∀{ks ks':List K2}{cs cs':List AV}{fs fs':List TF},ia Φ d g j ks cs fs->ia Φ d g j ks' cs' fs'->ia Φ d g j (ks++ks') (cs++cs') (fs++fs')
 | [],ks',_,cs',_,fs',⟨h1,h2⟩,h=>by subst h1 h2;exact h
 |k::ks,ks',_,cs',_,fs',⟨v,cs1,f,fs1,h1,h2,h3,h4⟩,h=>by
  subst h1 h2;exact⟨v,_,f,_,rfl,by rw[zbc],h3,ia.join h4 h⟩
mutual
inductive x6 (P:Program) (Φ:Forms) (G:GH):Nat->Nat->List AV->Prop where
 |mk {m c:Nat} {cs:List AV} (fs:List TF) (h:∀j,ia Φ Gd.d0 0 j (Φ.ks c) cs fs) (hw:iO Φ fs=m) (hg:∀v c' g' ns,.sl v c' g' ns∈fs->g'=0) (hl:∀v c' g' ns,.sl v c' g' ns∈fs->ns.length<=jB) (hf:∀v c' g' ns,.sl v c' g' ns∈fs->lq P Φ G v c' ns) (hn:∀v c' g',.pt v c' g'∉fs/\.mp v c' g'∉fs):x6 P Φ G m c cs
inductive lq (P:Program) (Φ:Forms) (G:GH):AV->Nat->List Nat->Prop where
 |nil {c:Nat}:lq P Φ G .ab c []
 |emp {c b o cp:Nat} (hu:Φ.gv c=false):lq P Φ G (.cN b o 0 cp) c []
 |aS {b o cap size c:Nat} {el:TypeId} {C:List AV} {ns:List Nat} (hb:G b=some (.cells .raw el size C)) (hu:Φ.gv c=false) (hl:o+ns.length*ae P (Φ.ty c)<=C.length)
  (h:∀(j m:Nat),ns[j]?=some m->x6 P Φ G m c ((C.drop (o+j*ae P (Φ.ty c))).take (ae P (Φ.ty c)))):lq P Φ G (.cN b o ns.length cap) c ns
end
structure dR (G G':GH):Prop where
 raw:∀b el size C,G b=some (.cells .raw el size C)->G' b=G b
 Q6:∀b el size C,G b=some (.cells .data el size C)->∃C',G' b=some (.cells .data el size C')
theorem dR.refl (G:GH):dR G G:=⟨fun _ _ _ _ _=>rfl,fun _ _ _ C h=>⟨C,h⟩⟩
mutual
theorem x6.le {P:Program}{Φ:Forms}{G G':GH}(hg:dR G G'):∀{m c:Nat}{cs:List AV},x6 P Φ G m c cs->x6 P Φ G' m c cs
 |_,_,_,.mk fs h hw h0 hl hf hn=>.mk fs h hw h0 hl (fun v c' g' ns hm=>(hf v c' g' ns hm).le hg) hn
theorem lq.le {P:Program}{Φ:Forms}{G G':GH}(hg:dR G G'):∀{v:AV}{c:Nat}{ns:List Nat},lq P Φ G v c ns->lq P Φ G' v c ns
 |_,_,_,.nil=>.nil
 |_,_,_,.emp hu=>.emp hu
 |_,_,_,.aS hb hu hl h=>.aS (by rw[hg.raw _ _ _ _ hb];exact hb) hu hl fun j m hj=>(h j m hj).le hg
end
inductive Ds where
 |cells (c g:Nat) (L:List Nat)
 |map (c g:Nat)
structure dy where
 m:Nat->Option Ds
 gd:Nat->Gd
 ng:Nat
def fF (P:Program)(Φ:Forms)(G:GH)(Γ:dy):TF->Prop
 |.sl v c g ns=>ns.length<=jB/\((v=.ab/\ns=[])∨(g=0/\lq P Φ G v c ns)∨∃b cap L size C,v=.cN b 0 ns.length cap/\Γ.m b=some (.cells c g L)/\ns=L.take ns.length/\G b=some (.cells .data (Φ.ty c) size C)/\cap*ae P (Φ.ty c)<=size/\ns.length<=cap)
 |.pt v c g=>∃b L,v=.cu b 0/\Γ.m b=some (.cells c g L)/\0<L.length
 |.mp v c g=>∃b,v=.cV b/\Γ.m b=some (.map c g)
 |.wn _=>True
 |.sj g j v=>g<Γ.ng/\∃l n,v=.str l n/\l<=jb/\(Γ.gd g).nm j=some (l,n)
 |.el v c j off x=>∃b o l cap el size C,v=.cN b o l cap/\j<l/\G b=some (.cells .raw el size C)/\o+l*ae P (Φ.ty c)<=C.length/\off<ae P (Φ.ty c)/\C[o+j*ae P (Φ.ty c)+off]?=some x
def eT (P:Program)(Φ:Forms)(G:GH)(Γ:dy)(m c g j:Nat)(cs:List AV):Prop:=∃fs,ia Φ (Γ.gd g) g j (Φ.ks c) cs fs/\iO Φ fs<=m/\∀f∈fs,fF P Φ G Γ f
def Ij (N:Nat):AV->Prop
 |.int _ n=>0<=n/\n<N
 |.agg [.int _ a,.int _ b]=>(0<=a/\a<N)/\0<=b/\b<N
 |_=>False
theorem Ij.le {N N':Nat}(h:N<=N'){v:AV}(hk:Ij N v):Ij N' v:=by
 unfold Ij at hk ⊢;split at hk
 ·exact⟨hk.1,Int.lt_of_lt_of_le hk.2 (Int.ofNat_le.2 h)⟩
 ·exact⟨⟨hk.1.1,Int.lt_of_lt_of_le hk.1.2 (Int.ofNat_le.2 h)⟩,hk.2.1,Int.lt_of_lt_of_le hk.2.2 (Int.ofNat_le.2 h)⟩
 ·exact hk.elim
def VW (es:List (AV×AV)):Prop:=es.Pairwise fun p q=>aW p.1 q.1=false
def fP (P:Program)(Φ:Forms)(G:GH)(Γ:dy)(c g:Nat)(es:List (AV×AV)):Prop :=
 (∀p∈es,cK (Φ.pk c) p.1)/\match Φ.mv c with
 |.kd k=>∀p∈es,∃fs,Kv Φ (Γ.gd g) g 0 k p.2 fs/\∀f∈fs,fF P Φ G Γ f
 |.unit=>∀p∈es,p.2=.agg []
 |.F5 b=>es.length<=(Γ.gd g).n 5/\Φ.pk c=.str/\(Γ.gd g).fz=true/\(∀l n,bD (.str l n) es=((Γ.gd g).at_ l n).map fun j=>.int .i64 (.ofNat j))/\∀l n j,(Γ.gd g).at_ l n=some j->j<(Γ.gd g).n b
 |.kn b k=>(∀p∈es,Ij ((Γ.gd g).n b) p.1)/\∀p∈es,∃fs,Kv Φ (Γ.gd g) g 0 k p.2 fs/\∀f∈fs,fF P Φ G Γ f
 |.Ii=>Φ.pk c=.pair/\(Γ.gd g).fz=true/\(∀l n l' n',aR l n l' n'=true->(Γ.gd g).at_ l n=(Γ.gd g).at_ l' n')/\∀p∈es,∃l n l' n' k j,p.1=.agg [.str l n,.str l' n']/\p.2=.int .i64 (.ofNat k)/\(Γ.gd g).fz=true/\(Γ.gd g).at_ l n=some j/\k<(Γ.gd g).fl j
def uA (P:Program)(Φ:Forms)(G:GH)(Γ:dy)(b:Nat):Ds->Prop
 |.cells c g L=>(g<Γ.ng/\Φ.raw c=false)/\(Φ.gv c=true->∀m∈L,m=WU)/\∃size C,G b=some (.cells .data (Φ.ty c) size C)/\C.length=L.length*ae P (Φ.ty c)/\∀j m,L[j]?=some m->eT P Φ G Γ m c g j ((C.drop (j*ae P (Φ.ty c))).take (ae P (Φ.ty c)))
 |.map c g=>g<Γ.ng/\∃es,G b=some (.map es)/\(∀p∈es,nf p.2)/\fP P Φ G Γ c g es
structure HT (P:Program) (Φ:Forms) (G:GH) (Γ:dy):Prop where
 z:Γ.gd 0=Gd.d0/\0<Γ.ng
 b:∀b x,Γ.m b=some x->uA P Φ G Γ b x
def oc:Ds->Ds->Prop
 |.cells c g L,.cells c' g' L'=>c'=c/\g'=g/\∃M,L'=L++M
 |.map c g,.map c' g'=>c'=c/\g'=g
 |_,_=>False
theorem oc.refl (x:Ds):oc x x:=by cases x with
 |cells c g L=>exact⟨rfl,rfl,[],by simp⟩
 |map c g=>exact⟨rfl,rfl⟩
theorem oc.trans {x y z:Ds}(h:oc x y)(h':oc y z):oc x z:=by
 cases x with
 |cells c g L=>cases y with
  |cells c1 g1 L1=>cases z with
   |cells c2 g2 L2=>obtain⟨rfl,rfl,M,rfl⟩:=h;obtain⟨rfl,rfl,M',rfl⟩:=h';exact⟨rfl,rfl,M++M',by rw[zbc]⟩
   |map=>exact h'.elim
  |map=>exact h.elim
 |map c g=>cases y with
  |cells=>exact h.elim
  |map c1 g1=>cases z with
   |cells=>exact h'.elim
   |map=>obtain⟨rfl,rfl⟩:=h;exact h'
structure dk (Γ Γ':dy):Prop where
 m:∀b x,Γ.m b=some x->∃y,Γ'.m b=some y/\oc x y
 gd:∀g,g<Γ.ng->(Γ.gd g).Le (Γ'.gd g)
 ng:Γ.ng<=Γ'.ng
theorem dk.refl (Γ:dy):dk Γ Γ:=⟨fun b x h=>⟨x,h,oc.refl x⟩,fun g _=>Gd.Le.refl _,zad _⟩
theorem dk.trans {Γ1 Γ2 Γ3:dy}(h:dk Γ1 Γ2)(h':dk Γ2 Γ3):dk Γ1 Γ3:=⟨fun b x hb=>by
 obtain⟨y,h1,h2⟩:=h.m _ _ hb;obtain⟨z,h3,h4⟩:=h'.m _ _ h1
 exact⟨z,h3,h2.trans h4⟩,fun g hg=>(h.gd g hg).trans (h'.gd g (zaw hg h.ng)),zam h.ng h'.ng⟩
theorem dk.cells {Γ Γ':dy}(h:dk Γ Γ'){b c g:Nat}{L:List Nat}(hb:Γ.m b=some (.cells c g L)):∃M,Γ'.m b=some (.cells c g (L++M)):=by
 obtain⟨y,h1,h2⟩:=h.m _ _ hb;cases y with
 |cells c' g' L'=>obtain⟨rfl,rfl,M,rfl⟩:=h2;exact⟨M,h1⟩
 |map=>exact h2.elim
theorem dk.map {Γ Γ':dy}(h:dk Γ Γ'){b c g:Nat}(hb:Γ.m b=some (.map c g)):Γ'.m b=some (.map c g):=by
 obtain⟨y,h1,h2⟩:=h.m _ _ hb;cases y with
 |cells=>exact h2.elim
 |map c' g'=>obtain⟨rfl,rfl⟩:=h2;exact h1
theorem fF.le {P:Program}{Φ:Forms}{G G':GH}{Γ Γ':dy}{f:TF}(h:fF P Φ G Γ f)(hg:dR G G')(hl:dk Γ Γ'):fF P Φ G' Γ' f:=by
 cases f with
 |sl v c g ns =>
  obtain⟨hlim,h⟩:=h;refine⟨hlim,?_⟩;rcases h with h|⟨h0,h⟩|⟨b,cap,L,size,C,h1,h2,h3,h5,h6⟩
  ·exact .inl h
  ·exact .inr (.inl ⟨h0,h.le hg⟩)
  ·obtain⟨M,h4⟩:=hl.cells h2;obtain⟨C',h5⟩:=hg.Q6 _ _ _ _ h5;refine .inr (.inr ⟨b,cap,L++M,size,C',h1,h4,?_,h5,h6⟩)
   have:ns.length<=L.length:=by
    have:=congrArg List.length h3;rw[zaf]at this;omega
   rw[zco this];exact h3
 |pt v c g =>
  obtain⟨b,L,h1,h2,h3⟩:=h;obtain⟨M,h4⟩:=hl.cells h2;exact⟨b,L++M,h1,h4,by rw[zak];omega⟩
 |mp v c g =>
  obtain⟨b,h1,h2⟩:=h;exact⟨b,h1,hl.map h2⟩
 |el v c j off x =>
  obtain⟨b,o,l,cap,el,size,C,h1,h2,h3,h4⟩:=h;exact⟨b,o,l,cap,el,size,C,h1,h2,by rw[hg.raw _ _ _ _ h3];exact h3,h4⟩
 |wn q=>trivial
 |sj g j v=>obtain⟨h0,l,n,h1,h2,h3⟩:=h;exact⟨zaw h0 hl.ng,l,n,h1,h2,(hl.gd g h0).nm _ _ h3⟩
theorem eT.le {P:Program}{Φ:Forms}{G G':GH}{Γ Γ':dy}{m c g j:Nat}{cs:List AV}(h:eT P Φ G Γ m c g j cs)(hg:dR G G')(hl:dk Γ Γ')(hlt:g<Γ.ng):eT P Φ G' Γ' m c g j cs:=by
 obtain⟨fs,h1,h2,h3⟩:=h;exact⟨fs,h1.le (hl.gd g hlt),h2,fun f hf=>(h3 f hf).le hg hl⟩
theorem eT.more {P:Program}{Φ:Forms}{G:GH}{Γ:dy}{m m' c g j:Nat}{cs:List AV}(h:eT P Φ G Γ m c g j cs)(hm:m<=m'):eT P Φ G Γ m' c g j cs:=by
 obtain⟨fs,h1,h2,h3⟩:=h;exact⟨fs,h1,by omega,h3⟩
theorem Kv.Ik {Φ:Forms}{d:Gd}{g j:Nat}{k:K2}{v:AV}{f:List TF}(h:Kv Φ d g j k v f)(u:AV)(c i o:Nat)(x:AV):TF.el u c i o x∉f:=by
 have no:∀y:TF,(∀u c i o x,y≠.el u c i o x)->f=[y]->TF.el u c i o x∉f:=fun y hy e hm=>by
  rw[e]at hm;exact hy _ _ _ _ _ (List.mem_singleton.1 hm).symm
 cases k with
 |sl c=>obtain⟨ns,h⟩:=h;exact no _ (fun _ _ _ _ _ e=>by cases e) h
 |BD c b=>obtain⟨ns,h,_⟩:=h;exact no _ (fun _ _ _ _ _ e=>by cases e) h
 |x5 c b=>obtain⟨ns,h,_⟩:=h;exact no _ (fun _ _ _ _ _ e=>by cases e) h
 |yY c b=>obtain⟨ns,h,_⟩:=h;exact no _ (fun _ _ _ _ _ e=>by cases e) h
 |AR c=>obtain⟨ns,h,_⟩:=h;exact no _ (fun _ _ _ _ _ e=>by cases e) h
 |rq b=>obtain⟨n,q,_,_,_,h⟩:=h;exact no _ (fun _ _ _ _ _ e=>by cases e) h
 |DU c w=>obtain⟨ns,h,_⟩:=h;exact no _ (fun _ _ _ _ _ e=>by cases e) h
 |Ct c w=>obtain⟨ns,h,_⟩:=h;exact no _ (fun _ _ _ _ _ e=>by cases e) h
 |ptr c=>exact no _ (fun _ _ _ _ _ e=>by cases e) h
 |mp c=>exact no _ (fun _ _ _ _ _ e=>by cases e) h
 |DV c=>rcases h with ⟨_,h⟩|h
        ·rw[h];exact fun h=>by cases h
        ·exact no _ (fun _ _ _ _ _ e=>by cases e) h
 |DW c=>rcases h with ⟨_,h⟩|h
        ·rw[h];exact fun h=>by cases h
        ·exact no _ (fun _ _ _ _ _ e=>by cases e) h
 |bad=>exact h.elim
 |_=>rw[h.2];exact fun h=>by cases h
theorem ia.Ik {Φ:Forms}{d:Gd}{g j:Nat}(u:AV)(c i o:Nat)(x:AV):∀{ks:List K2}{cs:List AV}{fs:List TF},ia Φ d g j ks cs fs->TF.el u c i o x∉fs
 | [],_,_,⟨_,h⟩=>by rw[h];exact fun h=>by cases h
 |k::ks,_,_,⟨v,cs',f,fs',h1,h2,h3,h4⟩=>by
  subst h1 h2;intro hm;rcases List.mem_append.1 hm with hm|hm
  ·exact h3.Ik u c i o x hm
  ·exact ia.Ik u c i o x h4 hm
theorem Kv.Il {Φ:Forms}{d:Gd}{g j:Nat}{k:K2}{v:AV}{f:List TF}(h:Kv Φ d g j k v f)(u v0:Nat)(x:AV):TF.sj u v0 x∉f:=by
 have no:∀y:TF,(∀u v0 x,y≠.sj u v0 x)->f=[y]->TF.sj u v0 x∉f:=fun y hy e hm=>by
  rw[e]at hm;exact hy _ _ _ (List.mem_singleton.1 hm).symm
 cases k with
 |sl c=>obtain⟨ns,h⟩:=h;exact no _ (fun _ _ _ e=>by cases e) h
 |BD c b=>obtain⟨ns,h,_⟩:=h;exact no _ (fun _ _ _ e=>by cases e) h
 |x5 c b=>obtain⟨ns,h,_⟩:=h;exact no _ (fun _ _ _ e=>by cases e) h
 |yY c b=>obtain⟨ns,h,_⟩:=h;exact no _ (fun _ _ _ e=>by cases e) h
 |AR c=>obtain⟨ns,h,_⟩:=h;exact no _ (fun _ _ _ e=>by cases e) h
 |rq b=>obtain⟨n,q,_,_,_,h⟩:=h;exact no _ (fun _ _ _ e=>by cases e) h
 |DU c w=>obtain⟨ns,h,_⟩:=h;exact no _ (fun _ _ _ e=>by cases e) h
 |Ct c w=>obtain⟨ns,h,_⟩:=h;exact no _ (fun _ _ _ e=>by cases e) h
 |ptr c=>exact no _ (fun _ _ _ e=>by cases e) h
 |mp c=>exact no _ (fun _ _ _ e=>by cases e) h
 |DV c=>rcases h with ⟨_,h⟩|h
        ·rw[h];exact fun h=>by cases h
        ·exact no _ (fun _ _ _ e=>by cases e) h
 |DW c=>rcases h with ⟨_,h⟩|h
        ·rw[h];exact fun h=>by cases h
        ·exact no _ (fun _ _ _ e=>by cases e) h
 |bad=>exact h.elim
 |_=>rw[h.2];exact fun h=>by cases h
theorem ia.Il {Φ:Forms}{d:Gd}{g j:Nat}(u v0:Nat)(x:AV):∀{ks:List K2}{cs:List AV}{fs:List TF},ia Φ d g j ks cs fs->TF.sj u v0 x∉fs
 | [],_,_,⟨_,h⟩=>by rw[h];exact fun h=>by cases h
 |k::ks,_,_,⟨v,cs',f,fs',h1,h2,h3,h4⟩=>by
  subst h1 h2;intro hm;rcases List.mem_append.1 hm with hm|hm
  ·exact h3.Il u v0 x hm
  ·exact ia.Il u v0 x h4 hm
theorem x6.el {P:Program}{Φ:Forms}{G:GH}{Γ:dy}{m c:Nat}{cs:List AV}(h:x6 P Φ G m c cs)(hz:Γ.gd 0=Gd.d0)(j:Nat):eT P Φ G Γ m c 0 j cs:=by
 cases h with
 |mk fs h hw h0 hl hf hn =>
  refine⟨fs,by rw[hz];exact h j,zdz hw,fun f hm=>?_⟩;cases f with
  |sl v c' g' ns=>exact⟨hl v c' g' ns hm,.inr (.inl ⟨h0 v c' g' ns hm,hf v c' g' ns hm⟩)⟩
  |pt v c' g'=>exact absurd hm (hn v c' g').1
  |mp v c' g'=>exact absurd hm (hn v c' g').2
  |el v c' i o x=>exact absurd hm ((h 0).Ik v c' i o x)
  |wn q=>trivial
  |sj g' j' v'=>exact absurd hm ((h 0).Il g' j' v')
theorem x6.VX {P:Program}{Φ:Forms}{G:GH}{Γ:dy}{m c:Nat}{cs:List AV}(h:x6 P Φ G m c cs)(hz:Γ.gd 0=Gd.d0)(j:Nat):∃fs,ia Φ (Γ.gd 0) 0 j (Φ.ks c) cs fs/\iO Φ fs=m/\∀f∈fs,fF P Φ G Γ f:=by
 cases h with
 |mk fs h hw h0 hl hf hn =>
  refine⟨fs,by rw[hz];exact h j,hw,fun f hm=>?_⟩;cases f with
  |sl v c' g' ns=>exact⟨hl v c' g' ns hm,.inr (.inl ⟨h0 v c' g' ns hm,hf v c' g' ns hm⟩)⟩
  |pt v c' g'=>exact absurd hm (hn v c' g').1
  |mp v c' g'=>exact absurd hm (hn v c' g').2
  |el v c' i o x=>exact absurd hm ((h 0).Ik v c' i o x)
  |wn q=>trivial
  |sj g' j' v'=>exact absurd hm ((h 0).Il g' j' v')
theorem jL {α:Type}{ns L:List α}(h:ns=L.take ns.length):ns.length<=L.length:=by
 have:=congrArg List.length h;rw[zaf]at this;omega
theorem fF.VY {P:Program}{Φ:Forms}{G:GH}{Γ:dy}{v:AV}{c g:Nat}{ns:List Nat}{j m:Nat}(h:fF P Φ G Γ (.sl v c g ns))(ht:HT P Φ G Γ)(hj:ns[j]?=some m) :
  ∃b o cap kd el size C,v=.cN b o ns.length cap/\G b=some (.cells kd el size C)/\o+j*ae P (Φ.ty c)+ae P (Φ.ty c)<=C.length/\eT P Φ G Γ m c g j ((C.drop (o+j*ae P (Φ.ty c))).take (ae P (Φ.ty c))) /\
   (Φ.raw c=true->∃fs,ia Φ (Γ.gd g) g j (Φ.ks c) ((C.drop (o+j*ae P (Φ.ty c))).take (ae P (Φ.ty c))) fs/\iO Φ fs=m/\∀f∈fs,fF P Φ G Γ f):=by
 have hlt:j<ns.length:=(List.getElem?_eq_some_iff.1 hj).1
 have hmul:∀n,j<n->j*ae P (Φ.ty c)+ae P (Φ.ty c)<=n*ae P (Φ.ty c):=fun n hn=>by
  have:(j+1)*ae P (Φ.ty c)<=n*ae P (Φ.ty c):=zae _ hn;rwa[zax]at this
 obtain⟨hlim,h⟩:=h;rcases h with ⟨_,h⟩|⟨h0,h⟩|⟨b,cap,L,size0,C0,h1,h2,h3,_⟩
 ·rw[h]at hj;simp at hj
 ·subst h0;cases h with
  |nil=>simp at hj
  |emp hu=>simp at hj
  |@aS b o cap size _ el C _ hb hu hl h =>
   have:=hmul ns.length hlt;exact⟨b,o,cap,.raw,el,size,C,rfl,hb,by omega,(h j m hj).el ht.z.1 j,fun _=>(h j m hj).VX ht.z.1 j⟩
 ·obtain⟨⟨_,hr⟩,_,size,C,q1,q2,q3⟩:=ht.b _ _ h2;have hle:=jL h3
  have hL:L[j]?=some m:=by
   rw[h3,zci]at hj;rw[if_pos hlt]at hj;exact hj
  refine⟨b,0,cap,.data,Φ.ty c,size,C,h1,q1,?_,?_,fun h=>by rw[hr]at h;cases h⟩
  ·have:=hmul L.length (by omega);rw[q2];omega
  ·rw[zaq];exact q3 j m hL
theorem fF.deref {P:Program}{Φ:Forms}{G:GH}{Γ:dy}{v:AV}{c g:Nat}(h:fF P Φ G Γ (.pt v c g))(ht:HT P Φ G Γ):∃b L m size C,v=.cu b 0/\Γ.m b=some (.cells c g L)/\L[0]?=some m/\G b=some (.cells .data (Φ.ty c) size C)/\C.length=L.length*ae P (Φ.ty c)/\ae P (Φ.ty c)<=C.length/\eT P Φ G Γ m c g 0 (C.take (ae P (Φ.ty c))):=by
 obtain⟨b,L,h1,h2,h3⟩:=h;obtain⟨_,_,size,C,q1,q2,q3⟩:=ht.b _ _ h2;have hL:L[0]?=some L[0]:=zap h3;have:=q3 0 _ hL;rw[zbw,zc]at this;have hmul:1*ae P (Φ.ty c)<=L.length*ae P (Φ.ty c):=zae _ h3;exact⟨b,L,_,size,C,h1,h2,hL,q1,q2,by omega,this⟩
theorem fF.form {P:Program}{Φ:Forms}{G:GH}{Γ:dy}{v:AV}{c g:Nat}{ns:List Nat}(h:fF P Φ G Γ (.sl v c g ns)):(v=.ab/\ns=[])∨∃b o cp,v=.cN b o ns.length cp:=by
 obtain⟨hlim,h⟩:=h;rcases h with h|⟨h0,h⟩|⟨b,cap,L,size0,C0,h1,_⟩
 ·exact .inl h
 ·cases h with
  |nil=>exact .inl ⟨rfl,rfl⟩
  |emp hu=>exact .inr ⟨_,_,_,rfl⟩
  |aS hb hu hl h=>exact .inr ⟨_,_,_,rfl⟩
 ·exact .inr ⟨b,0,cap,h1⟩
inductive Own where
 |loc (b:Nat) (el:TypeId) (C:List AV)
 |iF (v:AV) (c g:Nat) (ms:List Nat)
 |map (b:Nat) (pk:KK) (es:List (AV×AV))
 |ul (v:AV) (c g n:Nat)
 |am (b g k:Nat)
 |im (b k:Nat)
 |bl (v:AV) (el:TypeId) (ms:List Nat)
 |km (b c g n:Nat)
 |kq (b c g n:Nat) (q:Option (AV×Option AV))
 |rm (v:AV) (c g n:Nat)
 |it (b:Nat) (m:AV) (n r:Nat) (st ty:Bool)
 |ms (b:Nat) (v:AV) (c g f:Nat) (q:Option AV)
 |lr (b nt:Nat) (tm:Tm) (ps:Array Tmp) (x y:Code)
def jk (es es':List (AV×AV)):Nat:=(es.filter fun p=>(bD p.1 es').isNone).length
def VZ:AV->Option (Option Nat)
 |.bg=>some none
 |.cV b=>some (some b)
 |_=>none
def left (n:Nat)(seen:List Nat):Nat:=((List.range n).filter fun j=>!seen.contains j).length
def ON:MV->Bool
 |.kd _=>true
 |.unit=>true
 |.kn _ _=>true
 |_=>false
def qE:AV->Option Nat
 |.cN b _ _ _=>some b
 |_=>none
def Own.aS:Own->Option Nat
 |.loc b _ _=>some b
 |.iF v _ _ _=>qE v
 |.map b _ _=>some b
 |.ul v _ _ _=>qE v
 |.am b _ _=>some b
 |.im b _=>some b
 |.bl v _ _=>qE v
 |.km b _ _ _=>some b
 |.kq b _ _ _ _=>some b
 |.rm _ _ _ _=>none
 |.it b _ _ _ _ _=>some b
 |.lr b _ _ _ _ _=>some b
 |.ms b _ _ _ _ _=>some b
def Own.Q7:Own->Bool
 |.it _ _ _ _ _ ty=>ty
 |_=>false
def Own.inst:Own->Option Nat
 |.am _ g _=>some g
 |_=>none
def cm (os:List Own):List Nat:=os.filterMap Own.aS
def dO (P:Program)(Φ:Forms)(G:GH)(Γ:dy):Own->Prop
 |.loc b el C=>G b=some (.cells .loc el C.length C)/\Γ.m b=none
 |.iF v c g ms=>Φ.gv c=false/\ms.length<=jB/\((v=.ab/\ms=[])∨∃b cap size C,v=.cN b 0 ms.length cap/\Γ.m b=some (.cells c g ms)/\G b=some (.cells .data (Φ.ty c) size C)/\cap*ae P (Φ.ty c)<=size/\ms.length<=cap)
 |.map b pk es=>G b=some (.map es)/\Γ.m b=none/\∀p∈es,cK pk p.1
 |.ul v c g n=>g<Γ.ng/\n<=jB/\((v=.ab/\n=0)∨∃b cap size C,v=.cN b 0 n cap/\Γ.m b=none/\G b=some (.cells .data (Φ.ty c) size C)/\C.length=n*ae P (Φ.ty c)/\cap*ae P (Φ.ty c)<=size/\n<=cap/\∀j,j<n->eT P Φ G Γ WU c g j ((C.drop (j*ae P (Φ.ty c))).take (ae P (Φ.ty c))))
 |.am b g k=>Γ.m b=none/\g<Γ.ng/\(∀l n j,(Γ.gd g).at_ l n=some j->j<(Γ.gd g).n k)/\∃es,G b=some (.map es)/\(es.length<=(Γ.gd g).n 5/\∀p∈es,cK .str p.1/\nf p.2)/\∀l n,bD (.str l n) es=((Γ.gd g).at_ l n).map fun j=>.int .i64 (.ofNat j)
 |.im b k=>Γ.m b=none/\∃es,G b=some (.map es)/\∀p∈es,cK .str p.1/\∃n:Nat,p.2=.int .i64 (.ofNat n)/\n<k
 |.bl v el ms=>ms.length<=jB/\(∀m∈ms,m<=1)/\∃b size,v=.cN b 0 ms.length ms.length/\Γ.m b=none/\G b=some (.cells .data el size (ms.map fun m=>.bool (Nat.beq m 0)))
 |.km b c g n=>Γ.m b=none/\g<Γ.ng/\ON (Φ.mv c)=true/\∃es,G b=some (.map es)/\es.length=n/\(∀p∈es,nf p.2)/\fP P Φ G Γ c g es
 |.kq b c g n q=>Γ.m b=none/\g<Γ.ng/\ON (Φ.mv c)=true/\∃es,G b=some (.map es)/\es.length=n/\(∀p∈es,nf p.2)/\fP P Φ G Γ c g es/\VW es/\∀k r,q=some (k,r)->cK (Φ.pk c) k/\bD k es=r
 |.rm v c g n=>Φ.im c=true/\∃b es,v=.cV b/\Γ.m b=some (.map c g)/\G b=some (.map es)/\es.length=n
 |.it b m n r st ty=>Γ.m b=none/\(∃mo seen,VZ m=some mo/\G b=some (.iter mo n seen)/\left n seen=r/\(mo=none->n=0)/\(st=true->∃l j,seen=l++[j]/\j<n))/\(ty=true->∀mb,m=.cV mb->∃c g es,Γ.m mb=some (.map c g)/\G mb=some (.map es)/\es.length=n)
 |.lr b nt tm ps x y=>G b=some (.eI nt tm ps x y false)/\Γ.m b=none
 |.ms b v c g f q=>Γ.m b=none/\Φ.im c=true/\∃mb es es',v=.cV mb/\Γ.m mb=some (.map c g)/\G mb=some (.map es)/\G b=some (.map es')/\(∀p∈es',cK .str p.1/\p.2=.agg [])/\jk es es'<=f/\∀k,q=some k->cK .str k/\bD k es'=none
def Ds.fixed (Φ:Forms):Ds->Bool
 |.cells c _ _=>!Φ.gv c
 |.map c _=>Φ.im c
structure Rl (Φ:Forms) (S Sg:List Nat) (G:GH) (Γ:dy) (G':GH) (Γ':dy):Prop where
 g:∀b,(G b).isSome=true->b∉S->Γ.m b=none->G' b=G b/\Γ'.m b=none
 r:dR G G'
 t:∀b x,Γ.m b=some x->x.fixed Φ=true->b∉S->Γ'.m b=some x
 le:dk Γ Γ'
 gs:∀g,g<Γ.ng->g∉Sg->Γ'.gd g=Γ.gd g
 OO:∀b,(G b).isSome=true->(G' b).isSome=true
 im:∀b c g,Γ.m b=some (.map c g)->Φ.im c=true->G' b=G b
theorem Rl.refl (Φ:Forms)(S Sg:List Nat)(G:GH)(Γ:dy):Rl Φ S Sg G Γ G Γ:=⟨fun _ _ _ h=>⟨rfl,h⟩,dR.refl _,fun _ _ h _ _=>h,dk.refl _,fun _ _ _=>rfl,fun _ h=>h,fun _ _ _ _ _=>rfl⟩
theorem uA.told {P:Program}{Φ:Forms}{G:GH}{Γ:dy}{b:Nat}{x:Ds}(h:uA P Φ G Γ b x):(G b).isSome=true:=by
 cases x with
 |cells c g L=>obtain⟨_,_,size,C,h,_⟩:=h;rw[h];rfl
 |map c g=>obtain⟨_,es,h,_⟩:=h;rw[h];rfl
theorem Rl.trans {Φ:Forms}{P:Program}{S S1 Sg Sg1:List Nat}{G G1 G2:GH}{Γ Γ1 Γ2:dy}(ht:∀b x,Γ.m b=some x->(G b).isSome=true)(h:Rl Φ S Sg G Γ G1 Γ1)(h':Rl Φ S1 Sg1 G1 Γ1 G2 Γ2)(hs:∀b∈S1,b∈S∨G b=none)(hg:∀g∈Sg1,g∈Sg∨Γ.ng<=g):Rl Φ S Sg G Γ G2 Γ2:=by
 have no:∀b,(G b).isSome=true->b∉S->b∉S1:=fun b hb hn hm=>(hs b hm).elim hn fun e=>by rw[e]at hb;cases hb
 refine⟨fun b hb hn h0=>?_,⟨fun b el size C hb=>?_,fun b el size C hb=>?_⟩,fun b x hx hu hn=>?_,h.le.trans h'.le,fun g hlt hn=>?_,fun b hb=>h'.OO b (h.OO b hb),fun b c g hb hi=>(h'.im b c g (h.le.map hb) hi).trans (h.im b c g hb hi)⟩
 ·obtain⟨e1,e2⟩:=h.g b hb hn h0;obtain⟨e3,e4⟩:=h'.g b (h.OO b hb) (no b hb hn) e2;exact⟨e3.trans e1,e4⟩
 ·have:=h.r.raw b el size C hb;rw[h'.r.raw b el size C (by rw[this];exact hb),this]
 ·obtain⟨C1,h1⟩:=h.r.Q6 b el size C hb;exact h'.r.Q6 b el size C1 h1
 ·exact h'.t b x (h.t b x hx hu hn) hu (no b (ht b x hx) hn)
 ·rw[h'.gs g (zaw hlt h.le.ng) (fun hm=>(hg g hm).elim hn fun e=>absurd hlt (by omega)),h.gs g hlt hn]
theorem fP.J8 {P:Program}{Φ:Forms}{G G':GH}{Γ Γ':dy}{cc g:Nat}{es:List (AV×AV)}(hk:ON (Φ.mv cc)=true)(h:fP P Φ G Γ cc g es)(hr:dR G G')(hl:dk Γ Γ')(hg:g<Γ.ng):fP P Φ G' Γ' cc g es:=by
 unfold fP at h ⊢;refine⟨h.1,?_⟩;have h:=h.2;cases hm:Φ.mv cc with
 |kd k =>
  rw[hm]at h;intro p hp;obtain⟨fs,k1,k2⟩:=h p hp;exact⟨fs,k1.le (hl.gd g hg),fun f hf=>(k2 f hf).le hr hl⟩
 |unit=>rw[hm]at h;exact h
 |F5 b=>rw[hm]at hk;cases hk
 |Ii=>rw[hm]at hk;cases hk
 |kn b k =>
  rw[hm]at h;refine⟨fun p hp=>(h.1 p hp).le ((hl.gd g hg).n b),fun p hp=>?_⟩;obtain⟨fs,k1,k2⟩:=h.2 p hp;exact⟨fs,k1.le (hl.gd g hg),fun f hf=>(k2 f hf).le hr hl⟩
theorem dO.bE {P:Program}{Φ:Forms}{S Sg:List Nat}{G G':GH}{Γ Γ':dy}{o:Own}(h:dO P Φ G Γ o)(hr:Rl Φ S Sg G Γ G' Γ')(hn:∀b,o.aS=some b->b∉S)(hi:∀g,o.inst=some g->Γ'.gd g=Γ.gd g)(hp:o.Q7=true->∀b c g,Γ.m b=some (.map c g)->G' b=G b):dO P Φ G' Γ' o:=by
 cases o with
 |loc b el C =>
  obtain⟨h,h0⟩:G b=_/\Γ.m b=none:=h;obtain⟨e1,e2⟩:=hr.g b (by rw[h];rfl) (hn b rfl) h0;exact⟨by rw[e1];exact h,e2⟩
 |map b pk es =>
  obtain⟨h,h0,hk⟩:G b=_/\Γ.m b=none/\_:=h;obtain⟨e1,e2⟩:=hr.g b (by rw[h];rfl) (hn b rfl) h0;exact⟨by rw[e1];exact h,e2,hk⟩
 |iF v c g ms =>
  obtain⟨hu,hlim,h⟩:=h;refine⟨hu,hlim,?_⟩;rcases h with h|⟨b,cap,size,C,h1,h2,h3,h4⟩
  ·exact .inl h
  ·have hb:b∉S:=hn b (by rw[h1];rfl);obtain⟨C',hC'⟩:=hr.r.Q6 b _ _ _ h3;exact .inr ⟨b,cap,size,C',h1,hr.t b _ h2 (by simp[Ds.fixed,hu]) hb,hC',h4⟩
 |ul v c g n =>
  obtain⟨hg,hlim,h⟩:=h;refine⟨zaw hg hr.le.ng,hlim,?_⟩;rcases h with h|⟨b,cap,size,C,h1,h2,h3,h4,h5,h6,h7⟩
  ·exact .inl h
  ·obtain⟨e1,e2⟩:=hr.g b (by rw[h3];rfl) (hn b (by rw[h1];rfl)) h2;exact .inr ⟨b,cap,size,C,h1,e2,by rw[e1];exact h3,h4,h5,h6,fun j hj=>(h7 j hj).le hr.r hr.le hg⟩
 |am b g k =>
  obtain⟨h0,hg,hk,es,h1,h2,h3⟩:=h;obtain⟨e1,e2⟩:=hr.g b (by rw[h1];rfl) (hn b rfl) h0;have e3:=hi g rfl;exact⟨e2,zaw hg hr.le.ng,by rw[e3];exact hk,es,by rw[e1];exact h1,by rw[e3];exact h2,by rw[e3];exact h3⟩
 |im b k =>
  obtain⟨h0,es,h1,h2⟩:=h;obtain⟨e1,e2⟩:=hr.g b (by rw[h1];rfl) (hn b rfl) h0;exact⟨e2,es,by rw[e1];exact h1,h2⟩
 |bl v el ms =>
  obtain⟨hlim,hm,b,size,h1,h2,h3⟩:=h;obtain⟨e1,e2⟩:=hr.g b (by rw[h3];rfl) (hn b (by rw[h1];rfl)) h2;exact⟨hlim,hm,b,size,h1,e2,by rw[e1];exact h3⟩
 |km b c g n =>
  obtain⟨h0,hg,hk,es,h1,h2,h3,h4⟩:=h;obtain⟨e1,e2⟩:=hr.g b (by rw[h1];rfl) (hn b rfl) h0;exact⟨e2,zaw hg hr.le.ng,hk,es,by rw[e1];exact h1,h2,h3,h4.J8 hk hr.r hr.le hg⟩
 |kq b c g n q =>
  obtain⟨h0,hg,hk,es,h1,h2,h3,h4,h5⟩:=h;obtain⟨e1,e2⟩:=hr.g b (by rw[h1];rfl) (hn b rfl) h0;exact⟨e2,zaw hg hr.le.ng,hk,es,by rw[e1];exact h1,h2,h3,h4.J8 hk hr.r hr.le hg,h5⟩
 |rm v c g n =>
  obtain⟨hi,b,es,h1,h2,h3,h4⟩:=h;exact⟨hi,b,es,h1,hr.le.map h2,by rw[hr.im b c g h2 hi];exact h3,h4⟩
 |it b m n r st ty =>
  obtain⟨h0,⟨mo,seen,h1,h2,h3⟩,h4⟩:=h;obtain⟨e1,e2⟩:=hr.g b (by rw[h2];rfl) (hn b rfl) h0;refine⟨e2,⟨mo,seen,h1,by rw[e1];exact h2,h3⟩,fun ht mb hm=>?_⟩;obtain⟨c,g,es,q1,q3,q4⟩:=h4 ht mb hm;exact⟨c,g,es,hr.le.map q1,by rw[hp ht mb c g q1];exact q3,q4⟩
 |ms b v c g f q =>
  obtain⟨h0,hi,mb,es,es',h1,h2,h3,h4,h5⟩:=h;obtain⟨e1,e2⟩:=hr.g b (by rw[h4];rfl) (hn b rfl) h0;exact⟨e2,hi,mb,es,es',h1,hr.le.map h2,by rw[hr.im mb c g h2 hi];exact h3,by rw[e1];exact h4,h5⟩
 |lr b nt tm ps x y =>
  obtain⟨h1,h0⟩:G b=_/\Γ.m b=none:=h;obtain⟨e1,e2⟩:=hr.g b (by rw[h1];rfl) (hn b rfl) h0;exact⟨by rw[e1];exact h1,e2⟩
def lk:List (Nat×AV)->Nat->Option AV
 | [],_=>none
 |p::l,k=>bif Nat.beq p.1 k then some p.2 else lk l k
structure St where
 L:List (Nat×AV)
 os:List Own
 dQ:List TF
 gs:List (Nat×Gd×Bool)
structure Cx where
 P:Program
 Φ:Forms
 n0:Nat
 nt:Nat
 S:List Nat
 Sg:List Nat
 G0:GH
 Γ0:dy
 hp:Tr AO
 nx:Pz
 ml:List Pz
structure Q (c:Cx) (T:Tm) (G:GH) (Γ:dy) (st:St):Prop where
 ml:T.ml=c.ml
 at_:∀k v,lk st.L k=some v->T.at k=v
 uB:∀b x,c.Γ0.m b=some x->(c.G0 b).isSome=true
 rl:Rl c.Φ c.S c.Sg c.G0 c.Γ0 G Γ
 grow:ju c.n0 c.G0 G
 own:∀o∈st.os,dO c.P c.Φ G Γ o
 new:∀o∈st.os,∀b,o.aS=some b->b∈c.S∨c.G0 b=none
 nd:(cm st.os).Nodup
 ht:HT c.P c.Φ G Γ
 ty:∀f∈st.dQ,fF c.P c.Φ G Γ f
 gs:∀p∈st.gs,p.1<Γ.ng/\Γ.gd p.1=p.2.1/\(p.2.2=true->(p.1∈c.Sg∨c.Γ0.ng<=p.1)/\p.2.1.fz=false/\0<p.1)
def St.put (st:St)(d:Nat)(v:AV):St:=⟨(d,v)::st.L,st.os,st.dQ,st.gs⟩
section
variable {c:Cx}{ops:Array Oper}{lig ce ch:List Nat}{i m d f:Nat}{T:Tm}{G:GH}{Γ:dy}{st st':St}{v:AV}{K:Ex->St->Prop}{Kd:St->Prop}{co:Code}
theorem x7 (k:Nat)(p:Nat×AV)(l:List (Nat×AV)):lk (p::l) k=if p.1=k then some p.2 else lk l k:=by
 show (bif Nat.beq p.1 k then some p.2 else lk l k)=_;by_cases h:p.1=k
 ·subst h;simp
 ·rw[if_neg h];cases hb:Nat.beq p.1 k with
  |true=>exact absurd (zab hb) h
  |false=>rfl
theorem Q.put (h:Q c T G Γ st)(d:Nat)(v:AV):Q c (T.put d v) G Γ (st.put d v):=by
 refine⟨by rw[Tm.oJ];exact h.ml,fun k u hk=>?_,h.uB,h.rl,h.grow,h.own,h.new,h.nd,h.ht,h.ty,h.gs⟩;rw[show (st.put d v).L=(d,v)::st.L from rfl,x7]at hk;by_cases e:d=k
 ·subst e;rw[if_pos rfl]at hk;rw[Tm.ec];exact Option.some.inj hk
 ·rw[if_neg e]at hk;rw[Tm.fT (fun h=>e h.symm)];exact h.at_ k u hk
theorem Q.iq (h:Q c T G Γ st)(h1:∀k v,lk st'.L k=some v->lk st.L k=some v)(h2:∃rest,st.os.Perm (st'.os++rest))(h3:∀f∈st'.dQ,f∈st.dQ)(h4:∀p∈st'.gs,p∈st.gs):Q c T G Γ st':=by
 obtain⟨rest,hp⟩:=h2;have hm:∀o∈st'.os,o∈st.os:=fun o ho=>hp.mem_iff.2 (by simp[ho]);refine⟨h.ml,fun k v hk=>h.at_ k v (h1 k v hk),h.uB,h.rl,h.grow,fun o ho=>h.own o (hm o ho),fun o ho=>h.new o (hm o ho),?_,h.ht,fun f hf=>h.ty f (h3 f hf),fun p hp=>h.gs p (h4 p hp)⟩;have:=(hp.filterMap Own.aS).nodup_iff.1 h.nd;rw[zdf,List.nodup_append]at this;exact this.1
end
end Go.Rt
namespace Go.Rd
open Go.aI Go.RowKit Go.Rt
inductive U where
 |n (x:Nat)|z (x:Int)|b (x:Bool)|s (l m:Nat)|v (x:AV) (ns:List Nat)|g (d:Gd)
def U.nn:U->Nat|.n x=>x|_=>0
def U.zz:U->Int|.z x=>x|_=>0
def U.bb:U->Bool|.b x=>x|_=>false
def U.sl:U->Nat|.s l _=>bif Nat.ble l jb then l else 0|_=>0
theorem U.mB {l m:Nat}(h:l<=jb):(U.s l m).sl=l:=by show (bif Nat.ble l jb then l else 0)=l;rw[zbv h];rfl
theorem U.Cu (u:U):u.sl<=jb:=by
 cases u with
 |s l m =>
  show (bif Nat.ble l jb then l else 0)<=jb;cases h:Nat.ble l jb with
  |true=>exact aK h
  |false=>exact zbl _
 |_=>exact zbl _
def U.sm:U->Nat|.s _ m=>m|_=>0
def cr:AV->Bool
 |.ab=>true|.cN _ _ _ _=>true|.dY=>true|.cu _ _=>true|.bg=>true|.cV _=>true
 |_=>false
def U.vv:U->AV|.v x _=>bif cr x then x else .ab|_=>.ab
theorem U.rr (u:U):cr u.vv=true:=by
 cases u with
 |v x l =>
  show cr (bif cr x then x else .ab)=true;cases h:cr x with
  |true=>exact h
  |false=>rfl
 |_=>rfl
theorem U.jl {x:AV}{l:List Nat}(h:cr x=true):(U.v x l).vv=x:=by show (bif cr x then x else .ab)=x;rw[h];rfl
def U.ns:U->List Nat|.v _ l=>bif Nat.ble l.length jB then l else []|_=>[]
theorem U.iw {x:AV}{l:List Nat}(h:l.length<=jB):(U.v x l).ns=l:=by show (bif Nat.ble l.length jB then l else [])=l;rw[zbv h];rfl
theorem U.Cv (u:U):u.ns.length<=jB:=by
 cases u with
 |v x l =>
  show (bif Nat.ble l.length jB then l else []).length<=jB;cases h:Nat.ble l.length jB with
  |true=>exact aK h
  |false=>exact zbl _
 |_=>exact zbl _
def U.gg:U->Gd|.g d=>d|_=>Gd.d0
 abbrev aZ:=Nat->U
def cM (k:Nat)(ρ ρ':aZ):Prop:=∀i,i<k->ρ' i=ρ i
theorem cM.refl (k:Nat)(ρ:aZ):cM k ρ ρ:=fun _ _=>rfl
theorem cM.trans {k k':Nat}{ρ ρ' ρ2:aZ}(h:cM k ρ ρ')(h':cM k' ρ' ρ2)(hk:k<=k'):cM k ρ ρ2:=fun i hi=>(h' i (by omega)).trans (h i hi)
def aZ.up (ρ:aZ)(k:Nat)(u:U):aZ:=fun i=>if i=k then u else ρ i
theorem Im (ρ:aZ)(k:Nat)(u:U):cM k ρ (ρ.up k u):=fun i hi=>by unfold aZ.up;rw[if_neg (by omega)]
theorem dz (ρ:aZ)(k:Nat)(u:U):ρ.up k u k=u:=by simp[aZ.up]
inductive At where
 |n (k:Nat)|z (k:Nat)|len (k:Nat)|wt (k:Nat)|sl (k:Nat)|gn (k b:Nat)
def At.key:At->Nat
 |.n k=>Nat.mul k 8
 |.z k=>Nat.add (Nat.mul k 8) 1
 |.len k=>Nat.add (Nat.mul k 8) 2
 |.wt k=>Nat.add (Nat.mul k 8) 3
 |.sl k=>Nat.add (Nat.mul k 8) 4
 |.gn k _=>Nat.add (Nat.mul k 8) 5
def At.sec:At->Nat|.gn _ b=>b|_=>0
def At.beq (a b:At):Bool:=bif Nat.beq a.key b.key then Nat.beq a.sec b.sec else false
theorem At.ai {a b:At}(h:a.beq b=true):a=b:=by
 unfold At.beq at h;cases hb:Nat.beq a.key b.key with
 |false=>rw[hb]at h;cases h
 |true =>
  rw[hb]at h;have h1:=zab hb;have h2:=zab (show Nat.beq a.sec b.sec=true from h);cases a<;>cases b<;>simp only[At.key,At.sec,Nat.mul_eq,Nat.add_eq]at h1 h2<;>first|(exfalso;omega)|(congr 1;omega)|(congr 1<;>omega)
def At.id:At->Nat|.n k=>k|.z k=>k|.len k=>k|.wt k=>k|.sl k=>k|.gn k _=>k
def At.ev (ρ:aZ):At->Int
 |.n k=>(ρ k).nn
 |.z k=>(ρ k).zz
 |.len k=>(ρ k).ns.length
 |.wt k=>((ρ k).ns.sum+(ρ k).ns.length:Nat)
 |.sl k=>(ρ k).sl
 |.gn k b=>(ρ k).gg.n b
def At.nat:At->Bool|.z _=>false|_=>true
theorem At.OP {a:At}(h:a.nat=true)(ρ:aZ):0<=a.ev ρ:=by cases a<;>first|(simp[At.nat]at h;done)|(simp[At.ev];try omega)
theorem At.bG {a:At}{k:Nat}{ρ ρ':aZ}(h:cM k ρ ρ')(ha:a.id<k):a.ev ρ'=a.ev ρ:=by cases a<;>simp only[At.ev,At.id]at ha ⊢<;>rw[h _ ha]
structure LE where
 c:Int
 ts:List (Int×At)
def od (ρ:aZ):List (Int×At)->Int
 | []=>0
 |p::l=>p.1*p.2.ev ρ+od ρ l
def LE.ev (ρ:aZ)(e:LE):Int:=e.c+od ρ e.ts
def pe:Int->Bool|.ofNat _=>false|.negSucc _=>true
def nF:Int->Bool|.ofNat n=>Nat.beq n 0|.negSucc _=>false
theorem uC {x:Int}(h:pe x=false):0<=x:=by cases x with|ofNat n=>exact zde n|negSucc n=>cases h
theorem OQ {x:Int}(h:pe x=true):x<0:=by cases x with|ofNat n=>cases h|negSucc n=>omega
theorem ru {x:Int}(h:nF x=true):x=0:=by cases x with|ofNat n=>have:=zab h;subst this;rfl|negSucc n=>cases h
theorem Cw {x:Int}(h:nF x=false):x≠0:=by rintro rfl;cases h
def Io (k:Int)(a:At):List (Int×At)->List (Int×At)
 | []=>bif nF k then []else [(k,a)]
 |p::ts=>bif a.beq p.2 then (bif nF (k+p.1)then ts else (k+p.1,a)::ts)else p::Io k a ts
theorem DX (ρ:aZ)(k:Int)(a:At):∀ts,od ρ (Io k a ts)=k*a.ev ρ+od ρ ts
 | []=>by
   unfold Io;cases h:nF k with
   |true=>rw[ru h];simp[od]
   |false=>simp[od]
 |p::ts=>by
  unfold Io;cases hb:a.beq p.2 with
  |true =>
   have:=At.ai hb;subst this;cases h:nF (k+p.1)with
   |true =>
    have:=ru h;have e:k=-p.1:=by omega
    subst e;simp only[cond_true,od];rw[Int.neg_mul];omega
   |false=>simp only[cond_true,cond_false,od,Int.add_mul];omega
  |false=>simp only[cond_false,od];rw[DX ρ k a ts];omega
def AS:List (Int×At)->List (Int×At)->List (Int×At)
 | [],ys=>ys
 |p::xs,ys=>Io p.1 p.2 (AS xs ys)
theorem AW (ρ:aZ):∀xs ys,od ρ (AS xs ys)=od ρ xs+od ρ ys
 | [],ys=>by simp[AS,od]
 |p::xs,ys=>by rw[AS,DX,AW ρ xs ys,od];omega
def K4 (k:Int)(ts:List (Int×At)):List (Int×At):=ts.map fun p=>(k*p.1,p.2)
theorem DY (ρ:aZ)(k:Int):∀ts,od ρ (K4 k ts)=k*od ρ ts
 | []=>by simp[K4,od]
 |p::ts=>by
  have:=DY ρ k ts;show k*p.1*p.2.ev ρ+od ρ (K4 k ts)=k*(p.1*p.2.ev ρ+od ρ ts);rw[this,Int.mul_add,Int.mul_assoc]
def LE.add (x y:LE):LE:=⟨x.c+y.c,AS x.ts y.ts⟩
def LE.nG (k:Int)(x:LE):LE:=⟨k*x.c,K4 k x.ts⟩
def LE.sub (x y:LE):LE:=x.add (y.nG (-1))
def LE.k (c:Int):LE:=⟨c,[]⟩
def LE.a (a:At):LE:=⟨0,[(1,a)]⟩
def LE.bk (x:LE)(c:Int):LE:=⟨x.c+c,x.ts⟩
theorem LE.ib (ρ:aZ)(x y:LE):(x.add y).ev ρ=x.ev ρ+y.ev ρ:=by simp only[LE.ev,LE.add,AW];omega
theorem LE.iM (ρ:aZ)(k:Int)(x:LE):(x.nG k).ev ρ=k*x.ev ρ:=by simp only[LE.ev,LE.nG,DY,Int.mul_add]
theorem LE.aw (ρ:aZ)(x y:LE):(x.sub y).ev ρ=x.ev ρ-y.ev ρ:=by simp only[LE.sub,LE.ib,LE.iM];omega
theorem LE.bz (ρ:aZ)(c:Int):(LE.k c).ev ρ=c:=by simp[LE.ev,LE.k,od]
theorem LE.aQ (ρ:aZ)(a:At):(LE.a a).ev ρ=a.ev ρ:=by simp[LE.ev,LE.a,od]
theorem LE.aO (ρ:aZ)(x:LE)(c:Int):(x.bk c).ev ρ=x.ev ρ+c:=by simp only[LE.ev,LE.bk];omega
def LE.lt (n:Nat)(e:LE):Bool:=e.ts.all fun p=>Nat.blt p.2.id n
theorem DZ {k:Nat}{ρ ρ':aZ}(h:cM k ρ ρ'):∀{ts:List (Int×At)},(ts.all fun p=>Nat.blt p.2.id k)=true->od ρ' ts=od ρ ts
 | [],_=>rfl
 |p::ts,ht=>by
  rw[zdk,za]at ht;rw[od,od,DZ h ht.2,At.bG h (av ht.1)]
theorem LE.bG {k:Nat}{ρ ρ':aZ}(h:cM k ρ ρ'){e:LE}(he:e.lt k=true):e.ev ρ'=e.ev ρ:=by unfold LE.ev;rw[DZ h he]
def LE.same (x y:LE):Bool:=let d:=x.sub y;nF d.c&&d.ts.isEmpty
theorem LE.aN {x y:LE}(h:x.same y=true)(ρ:aZ):x.ev ρ=y.ev ρ:=by
 unfold LE.same at h;rw[za]at h;have h1:=ru h.1;have h2:(x.sub y).ts=[]:=List.isEmpty_iff.1 h.2;have:=LE.aw ρ x y;have h3:(x.sub y).ev ρ=0:=by unfold LE.ev;rw[h1,h2];rfl
 omega
def F6:List (Int×At)->Bool
 | []=>false
 |p::ts=>(pe p.1||!p.2.nat)||F6 ts
theorem x8:∀{ts:List (Int×At)},F6 ts=false->∀ρ,0<=od ρ ts
 | [],_,ρ=>by simp[od]
 |p::ts,h,ρ=>by
  unfold F6 at h;rw[Bool.or_eq_false_iff,Bool.or_eq_false_iff,Bool.not_eq_false']at h;obtain⟨⟨h1,h2⟩,h3⟩:=h;have h1:=uC h1;have h2:=At.OP h2 ρ;have h3:=x8 h3 ρ;have:=Int.mul_nonneg h1 h2;rw[od];omega
inductive Cs where|f (q k i:Nat)|yX (q k x:Nat)|lw (q k x:Nat)|ls (q k x:Nat)
def Q8 (k:Nat):LE:=⟨jB,[(-1,.len k)]⟩
def M8 (k:Nat):LE:=⟨0,[(1,.wt k),(-1,.len k)]⟩
def Q9 (k:Nat):LE:=⟨jb,[(-1,.sl k)]⟩
def nH (g f:LE)(q k:Nat):LE:=bif Nat.beq q 1&&Nat.beq k 1 then g.sub f else (g.nG q).sub (f.nG k)
def K5:List LE->Nat->Option LE
 | [],_=>none
 |f::l,i=>bif Nat.beq i 0 then some f else K5 l (Nat.pred i)
theorem AX:∀{l:List LE}{i:Nat}{f:LE},K5 l i=some f->f∈l
 | [],_,_,h=>by cases h
 |x::l,i,f,h=>by
  unfold K5 at h;cases hb:Nat.beq i 0 with
  |true=>rw[hb]at h;cases h;exact zac ..
  |false=>rw[hb]at h;exact zaa _ (AX h)
def Cs.fact (fs:List LE):Cs->Option LE|.f _ _ i=>K5 fs i|.yX _ _ x=>some (Q8 x)|.lw _ _ x=>some (M8 x)|.ls _ _ x=>some (Q9 x)
def Cs.q:Cs->Nat|.f q _ _=>q|.yX q _ _=>q|.lw q _ _=>q|.ls q _ _=>q
def Cs.k:Cs->Nat|.f _ k _=>k|.yX _ k _=>k|.lw _ k _=>k|.ls _ k _=>k
def DR (fs:List LE):List Cs->LE->Bool
 | [],g=>bif pe g.c then false else !F6 g.ts
 |x::l,g=>match x.fact fs with
  |some f=>bif Nat.beq x.q 0 then false else DR fs l (nH g f x.q x.k)
  |none=>false
theorem Ip {g f:LE}{q k:Nat}{ρ:aZ}(hq:Nat.beq q 0=false)(hf:0<=f.ev ρ)(h:0<=(nH g f q k).ev ρ):0<=g.ev ρ:=by
 unfold nH at h;have h0:q≠0:=fun e=>by subst e;cases hq
 have hk:0<=(k:Int)*f.ev ρ:=Int.mul_nonneg (zde _) hf;cases hb:(Nat.beq q 1&&Nat.beq k 1)with
 |true=>rw[hb,cond_true,LE.aw]at h;omega
 |false =>
  rw[hb,cond_false,LE.aw,LE.iM,LE.iM]at h;have hqq:(0:Int)<(q:Int):=by omega
  rcases Int.lt_or_le (g.ev ρ) 0 with hlt|hge
  ·have:=Int.mul_neg_of_pos_of_neg hqq hlt;omega
  ·exact hge
theorem Iq {fs:List LE}{ρ:aZ}(hfs:∀f∈fs,0<=f.ev ρ):∀{l:List Cs}{g:LE},DR fs l g=true->0<=g.ev ρ
 | [],g,h=>by
   unfold DR at h;cases hc:pe g.c with
   |true=>rw[hc]at h;cases h
   |false =>
    rw[hc,cond_false,zaj]at h;have h1:=uC hc;have h2:=x8 h ρ;unfold LE.ev;omega
 |x::l,g,h=>by
  unfold DR at h;split at h
  ·rename_i f hf;cases hq:Nat.beq x.q 0 with
   |true=>rw[hq]at h;cases h
   |false =>
    rw[hq]at h;refine Ip hq ?_ (Iq hfs h);cases x with
    |f q k i=>exact hfs f (AX hf)
    |yX q k y =>
     cases hf;have:=U.Cv (ρ y);simp only[Q8,LE.ev,od,At.ev];omega
    |lw q k y =>
     cases hf;simp only[M8,LE.ev,od,At.ev];omega
    |ls q k y =>
     cases hf;have:=U.Cu (ρ y);simp only[Q9,LE.ev,od,At.ev];omega
  ·cases h
def At.ps:At->Nat
 |.n k=>Nat.mul k 8
 |.sl k=>Nat.add (Nat.mul k 8) 7
 |.z k=>Nat.add (Nat.mul k 8) 1
 |.wt k=>Nat.add (Nat.mul k 8) 2
 |.len k=>Nat.add (Nat.mul k 8) 3
 |.gn k b=>Nat.add (Nat.mul k 8) (Nat.add 4 b)
def Qy:List (Int×At)->Nat
 | []=>0
 |p::l=>match p.1 with|.ofNat k=>Nat.add (Qy l) (Nat.shiftLeft k (Nat.mul 64 p.2.ps))|.negSucc _=>Qy l
def Qz:List (Int×At)->Nat
 | []=>0
 |p::l=>match p.1 with|.ofNat _=>Qz l|.negSucc k=>Nat.add (Qz l) (Nat.shiftLeft (Nat.succ k) (Nat.mul 64 p.2.ps))
def Ub (n:Nat):Nat:=Nat.shiftLeft (Nat.div (Nat.sub (Nat.pow 2 (Nat.mul 512 n)) 1) 18446744073709551615) 63
def Uc (n:Nat):Nat:=Nat.shiftLeft (Nat.div (Nat.sub (Nat.pow 2 (Nat.mul 512 n)) 1) (Nat.sub (Nat.pow 2 512) 1)) 127
structure Pk where
 i:Nat
 p:Nat
 n:Nat
 xn:Nat
 xp:Nat
 c:Int
def D0 (H p n:Nat):Nat:=Nat.sub H (Nat.land (Nat.sub (Nat.add p H) n) H)
def V0 (H i:Nat)(f:LE):Pk:=⟨i,Qy f.ts,Qz f.ts,D0 H (Qy f.ts) (Qz f.ts),D0 H (Qz f.ts) (Qy f.ts),f.c⟩
def Vj (H:Nat):Nat->List LE->List Pk
 |_,[]=>[]
 |i,f::l=>V0 H i f::Vj H (Nat.succ i) l
def GW (x ps:Nat):Nat:=Nat.land (Nat.shiftRight x (Nat.mul 64 ps)) 18446744073709551615
def OR (o:Option (List Cs))(x:Cs)(r:Option (List Cs)):Option (List Cs):=match o with|some l=>some (x::l)|none=>r
def K6 (bit:Nat)(neg:Bool)(kk:Nat)(ps:Nat)(P N:Nat)(c:Int)(K:Nat->Nat->Int->Option (List Cs)):List Pk->Option (List Cs)
 | []=>none
 |f::l=>bif Nat.beq (Nat.land (Nat.shiftRight (bif neg then f.xn else f.xp) bit) 1) 0 then K6 bit neg kk ps P N c K l else
  let q:=bif neg then Nat.sub (GW f.n ps) (GW f.p ps)else Nat.sub (GW f.p ps) (GW f.n ps)
  bif Nat.beq q 1&&Nat.beq kk 1 then OR (K (Nat.add P f.n) (Nat.add N f.p) (Int.sub c f.c)) (.f 1 1 f.i) (K6 bit neg kk ps P N c K l)
  else OR (K (Nat.add (Nat.mul q P) (Nat.mul kk f.n)) (Nat.add (Nat.mul q N) (Nat.mul kk f.p)) (Int.sub (Int.mul q c) (Int.mul kk f.c))) (.f q kk f.i) (K6 bit neg kk ps P N c K l)
def OS (P N:Nat)(c:Int)(K:Nat->Nat->Int->Option (List Cs)):List Pk->Option (List Cs)
 | []=>none
 |f::l=>bif pe f.c then OR (K (Nat.add P f.n) (Nat.add N f.p) (Int.sub c f.c)) (.f 1 1 f.i) (OS P N c K l)else OS P N c K l
def OT (kk ps P N:Nat)(c:Int)(K:Nat->Nat->Int->Option (List Cs)):List Pk->Option (List Cs)
 | []=>none
 |f::l=>bif pe f.c then
    let fc:=Nat.sub (GW f.p ps) (GW f.n ps)
    let m:=bif Nat.beq fc 0 then 1 else Nat.max 1 (Nat.div kk fc)
    OR (K (Nat.add P (Nat.mul m f.n)) (Nat.add N (Nat.mul m f.p)) (Int.sub c (Int.mul m f.c))) (.f 1 m f.i) (OT kk ps P N c K l)
  else OT kk ps P N c K l
def Vk (a b:Option (List Cs)):Option (List Cs):=match a with|some l=>some l|none=>b
def K7 (x:Nat):Nat->Nat->Nat
 |0,a=>a
 |k+1,a=>bif Nat.beq (Nat.shiftRight x (Nat.add a (Nat.pow 2 k))) 0 then K7 x k a else K7 x k (Nat.add a (Nat.pow 2 k))
def Cy (H Z:Nat)(fs:List Pk):Nat->Nat->Nat->Nat->Int->Option (List Cs)
 |0,_,_,_,_=>none
 |fu+1,ban,P,N,c =>
  let xn:=D0 H P N
  let x:=Nat.lor xn (Nat.sub Z (Nat.land (Nat.sub (Nat.add N H) P) Z))
  bif Nat.beq (Nat.land x ban) 0 then
   (bif Nat.beq x 0 then (bif pe c then (let bit:=K7 (D0 H N P) 21 0
    let ps:=Nat.shiftRight bit 6
    let kk:=Nat.sub (GW P ps) (GW N ps)
    bif Nat.ble kk 1 then OS P N c (fun P N c=>Cy H Z fs fu ban P N c) fs else OT kk ps P N c (fun P N c=>Cy H Z fs fu ban P N c) fs)else some [])
   else
    let bit:=K7 x 21 0
    let ps:=Nat.shiftRight bit 6
    let neg:=!Nat.beq (Nat.land (Nat.shiftRight xn bit) 1) 0
    let kk:=bif neg then Nat.sub (GW N ps) (GW P ps)else Nat.sub (GW P ps) (GW N ps)
    let ban':=Nat.lor ban (Nat.shiftLeft 1 bit)
    Vk (K6 bit neg kk ps P N c (fun P N c=>Cy H Z fs fu ban' P N c) fs)
     (bif Nat.beq (Nat.land ps 7) 3 then
      Vk (OR (Cy H Z fs fu ban' (Nat.add P (Nat.shiftLeft kk (Nat.mul 64 ps))) (Nat.add N (Nat.shiftLeft kk (Nat.mul 64 (Nat.pred ps)))) c) (.lw 1 kk (Nat.shiftRight ps 3)) none)
       (OR (Cy H Z fs fu ban' (Nat.add P (Nat.shiftLeft kk (Nat.mul 64 ps))) N (Int.sub c (Int.mul kk jB))) (.yX 1 kk (Nat.shiftRight ps 3)) none)
     else bif Nat.beq (Nat.land ps 7) 7 then OR (Cy H Z fs fu ban' (Nat.add P (Nat.shiftLeft kk (Nat.mul 64 ps))) N (Int.sub c (Int.mul kk jb))) (.ls 1 kk (Nat.shiftRight ps 3)) none else none))
  else none
def M9 (nx:Nat):Nat:=bif Nat.ble nx 120 then 120 else bif Nat.ble nx 500 then 500 else 4000
def pv (fu nx:Nat)(fs:List LE)(g:LE):Bool:=bif !pe g.c&&!F6 g.ts then true else
 let H:=Ub (M9 nx)
 match Cy H (Uc (M9 nx)) (Vj H 0 fs) fu 0 (Qy g.ts) (Qz g.ts) g.c with
 |some l=>DR fs l g
 |none=>false
theorem AY {fs:List LE}{ρ:aZ}(hfs:∀f∈fs,0<=f.ev ρ){n nx:Nat}{g:LE}(h:pv n nx fs g=true):0<=g.ev ρ:=by
 unfold pv at h;cases hb:(!pe g.c&&!F6 g.ts)with
 |true =>
  rw[za,zaj,zaj]at hb;have h1:=uC hb.1;have h2:=x8 hb.2 ρ;unfold LE.ev;omega
 |false =>
  rw[hb,cond_false]at h;simp only at h;split at h
  ·exact Iq hfs h
  ·cases h
inductive BE where
 |k (b:Bool)|v (x:Nat)|nv (x:Nat)|ge (e:LE)|eq (e:LE)|ne (e:LE)
def BE.ev (ρ:aZ):BE->Bool
 |.k b=>b
 |.v x=>(ρ x).bb
 |.nv x=>!(ρ x).bb
 |.ge e=>decide (0<=e.ev ρ)
 |.eq e=>decide (e.ev ρ=0)
 |.ne e=>!decide (e.ev ρ=0)
def BE.lt (n:Nat):BE->Bool
 |.k _=>true
 |.v x=>Nat.blt x n
 |.nv x=>Nat.blt x n
 |.ge e=>e.lt n
 |.eq e=>e.lt n
 |.ne e=>e.lt n
def BE.not:BE->BE
 |.k b=>.k (!b)
 |.v x=>.nv x
 |.nv x=>.v x
 |.ge e=>.ge ((LE.k (-1)).sub e)
 |.eq e=>.ne e
 |.ne e=>.eq e
theorem BE.Cz (ρ:aZ)(b:BE):b.not.ev ρ=!b.ev ρ:=by
 cases b with
 |ge e =>
  simp only[BE.not,BE.ev,LE.aw,LE.bz];rw[zcv];simp only[zaj,decide_eq_true_eq,decide_eq_false_iff_not];omega
 |_=>simp[BE.not,BE.ev]
theorem BE.bG {k:Nat}{ρ ρ':aZ}(h:cM k ρ ρ'){b:BE}(hb:b.lt k=true):b.ev ρ'=b.ev ρ:=by
 cases b with
 |k b=>rfl
 |v x=>simp only[BE.ev];rw[h x (av hb)]
 |nv x=>simp only[BE.ev];rw[h x (av hb)]
 |ge e=>simp only[BE.ev];rw[LE.bG h hb]
 |eq e=>simp only[BE.ev];rw[LE.bG h hb]
 |ne e=>simp only[BE.ev];rw[LE.bG h hb]
def BE.same:BE->BE->Bool
 |.k b,.k b'=>b==b'
 |.v x,.v y=>Nat.beq x y
 |.nv x,.nv y=>Nat.beq x y
 |.ge e,.ge e'=>e.same e'
 |.eq e,.eq e'=>e.same e'
 |.ne e,.ne e'=>e.same e'
 |_,_=>false
theorem BE.aN {x y:BE}(h:x.same y=true)(ρ:aZ):x.ev ρ=y.ev ρ:=by
 cases x<;>cases y<;>simp only[BE.same,zag]at h
 ·rw[beq_iff_eq]at h;subst h;rfl
 ·have:=zab h;subst this;rfl
 ·have:=zab h;subst this;rfl
 all_goals (simp only[BE.ev];rw[LE.aN h ρ])
inductive SC where
 |int (k:IntKind) (e:LE)|bool (b:BE)|str (x:Nat)|mF (l m:Nat)|oz (k:FloatKind) (x:Nat)|x9 (k:FloatKind) (b:Nat)
 |ref (x:Nat)|ab|dY|bg|cy
 |cu (b o:Nat)|oB (x:Nat) (i:LE) (sz o:Nat)|vd (x o:Nat)|cV (b:Nat)|fn (f:Nat)|wE (b n:Nat)
def pf (v:AV)(k:Nat):AV:=match v with|.cN b o _ _=>.cu b (o+k)|_=>.dY
def mH (v:AV)(k:Nat):AV:=match v with|.cu b o=>.cu b (o+k)|_=>.dY
def SC.den (ρ:aZ):SC->AV
 |.int k e=>.int k (e.ev ρ)
 |.bool b=>.bool (b.ev ρ)
 |.str x=>.str (ρ x).sl (ρ x).sm
 |.mF l m=>.str l m
 |.oz k x=>.float k (ρ x).nn
 |.x9 k b=>.float k b
 |.ref x=>(ρ x).vv
 |.ab=>.ab|.dY=>.dY|.bg=>.bg|.cy=>.cy
 |.cu b o=>.cu (ρ b).nn o
 |.oB x i sz o=>pf (ρ x).vv ((i.ev ρ).toNat*sz+o)
 |.vd x o=>mH (ρ x).vv o
 |.cV b=>.cV (ρ b).nn
 |.fn f=>.func (.func f) [] []
 |.wE b n=>.cN (ρ b).nn 0 n n
def SC.lt (n:Nat):SC->Bool
 |.int _ e=>e.lt n
 |.bool b=>b.lt n
 |.str x=>Nat.blt x n
 |.oz _ x=>Nat.blt x n
 |.ref x=>Nat.blt x n
 |.cu b _=>Nat.blt b n
 |.oB x i _ _=>Nat.blt x n&&i.lt n
 |.vd x _=>Nat.blt x n
 |.cV b=>Nat.blt b n
 |.wE b _=>Nat.blt b n
 |_=>true
theorem SC.bG {k:Nat}{ρ ρ':aZ}(h:cM k ρ ρ'){c:SC}(hc:c.lt k=true):c.den ρ'=c.den ρ:=by
 cases c with
 |int kd e=>simp only[SC.den];rw[LE.bG h hc]
 |bool b=>simp only[SC.den];rw[BE.bG h hc]
 |oB x i sz o =>
  have hc:(Nat.blt x k&&i.lt k)=true:=hc;rw[za]at hc;simp only[SC.den];rw[h x (av hc.1),LE.bG h hc.2]
 |str x=>simp only[SC.den];rw[h x (av hc)]
 |oz kd x=>simp only[SC.den];rw[h x (av hc)]
 |ref x=>simp only[SC.den];rw[h x (av hc)]
 |cu x o=>simp only[SC.den];rw[h x (av hc)]
 |vd x o=>simp only[SC.den];rw[h x (av hc)]
 |cV x=>simp only[SC.den];rw[h x (av hc)]
 |wE x _=>simp only[SC.den];rw[h x (av hc)]
 |_=>rfl
def gB:IntKind->IntKind->Bool:=fun a b=>decide (a=b)
def pg:FloatKind->FloatKind->Bool:=fun a b=>decide (a=b)
def SC.same:SC->SC->Bool
 |.int k e,.int k' e'=>gB k k'&&e.same e'
 |.bool b,.bool b'=>b.same b'
 |.str x,.str y=>Nat.beq x y
 |.mF l m,.mF l' m'=>Nat.beq l l'&&Nat.beq m m'
 |.oz k x,.oz k' y=>pg k k'&&Nat.beq x y
 |.x9 k x,.x9 k' y=>pg k k'&&Nat.beq x y
 |.ref x,.ref y=>Nat.beq x y
 |.ab,.ab=>true
 |.dY,.dY=>true
 |.bg,.bg=>true
 |.cy,.cy=>true
 |.cu b o,.cu b' o'=>Nat.beq b b'&&Nat.beq o o'
 |.oB x i s o,.oB x' i' s' o'=>Nat.beq x x'&&(i.same i'&&(Nat.beq s s'&&Nat.beq o o'))
 |.vd x o,.vd x' o'=>Nat.beq x x'&&Nat.beq o o'
 |.cV b,.cV b'=>Nat.beq b b'
 |.fn f,.fn f'=>Nat.beq f f'
 |.wE b o,.wE b' o'=>Nat.beq b b'&&Nat.beq o o'
 |_,_=>false
theorem SC.aN {x y:SC}(h:x.same y=true)(ρ:aZ):x.den ρ=y.den ρ:=by
 cases x<;>cases y<;>simp only[SC.same,zag,za,gB,pg,decide_eq_true_eq]at h
 ·obtain⟨rfl,h⟩:=h;simp only[SC.den];rw[LE.aN h ρ]
 ·simp only[SC.den];rw[BE.aN h ρ]
 ·have:=zab h;subst this;rfl
 ·obtain⟨h1,h2⟩:=h;have:=zab h1;have:=zab h2;subst_vars;rfl
 ·obtain⟨rfl,h⟩:=h;have:=zab h;subst this;rfl
 ·obtain⟨rfl,h⟩:=h;have:=zab h;subst this;rfl
 ·have:=zab h;subst this;rfl
 ·rfl
 ·rfl
 ·rfl
 ·rfl
 ·obtain⟨h1,h2⟩:=h;have:=zab h1;have:=zab h2;subst_vars;rfl
 ·obtain⟨h1,h2,h3,h4⟩:=h;have:=zab h1;have:=zab h3;have:=zab h4;subst_vars;simp only[SC.den];rw[LE.aN h2 ρ]
 ·obtain⟨h1,h2⟩:=h;have:=zab h1;have:=zab h2;subst_vars;rfl
 ·have:=zab h;subst this;rfl
 ·have:=zab h;subst this;rfl
 ·obtain⟨h1,h2⟩:=h;have:=zab h1;have:=zab h2;subst_vars;rfl
def aB (ρ:aZ)(cs:List SC):List AV:=cs.map (SC.den ρ)
def ya (n:Nat)(cs:List SC):Bool:=cs.all (SC.lt n)
theorem lu {k:Nat}{ρ ρ':aZ}(h:cM k ρ ρ'){cs:List SC}(hc:ya k cs=true):aB ρ' cs=aB ρ cs:=zav fun c hm=>SC.bG h (List.all_eq_true.1 hc c hm)
def oC:List SC->List SC->Bool
 | [],[]=>true
 |x::xs,y::ys=>x.same y&&oC xs ys
 |_,_=>false
theorem jM:∀{xs ys:List SC},oC xs ys=true->∀ρ,aB ρ xs=aB ρ ys
 | [],[],_,ρ=>rfl
 |x::xs,y::ys,h,ρ=>by
  simp only[oC,za]at h;show x.den ρ::aB ρ xs=y.den ρ::aB ρ ys;rw[SC.aN h.1 ρ,jM h.2 ρ]
 | [],_::_,h,_=>by cases h
 |_::_,[],h,_=>by cases h
inductive SV where
 |v (ag:Bool) (cs:List SC)
 |dC (l:List (Bool×List SC))
 |undef
 |ve (f:Nat) (bs cs:List SC)
 |slt (q:Nat) (e:LE) (sz:Nat)
 |yl (q:Nat)
def dS (ρ:aZ)(p:Bool×List SC):AV:=match p.1 with|true=>.agg (aB ρ p.2)|false=>(aB ρ p.2).headD .ab
def Kb (v:AV)(j sz:Nat):AV:=match v with
 |.cN b o n cap=>.cN b (bif Nat.beq cap j then o else o+j*sz) (n-j) (cap-j)
 |x=>x
def SV.den (ρ:aZ):SV->AV
 |.v ag cs=>dS ρ (ag,cs)
 |.dC l=>.dC (l.map (dS ρ))
 |.undef=>aE
 |.ve f bs cs=>.func (.func f) (aB ρ bs) (aB ρ cs)
 |.slt q e sz=>Kb (ρ q).vv (e.ev ρ).toNat sz
 |.yl q=>.zg (ρ q).nn
def SV.lt (n:Nat):SV->Bool
 |.v _ cs=>ya n cs
 |.dC l=>l.all fun p=>ya n p.2
 |.undef=>true
 |.ve _ bs cs=>ya n bs&&ya n cs
 |.slt q e _=>Nat.blt q n&&e.lt n
 |.yl q=>Nat.blt q n
theorem uD {k:Nat}{ρ ρ':aZ}(h:cM k ρ ρ'){p:Bool×List SC}(hc:ya k p.2=true):dS ρ' p=dS ρ p:=by unfold dS;rw[lu h hc]
theorem SV.bG {k:Nat}{ρ ρ':aZ}(h:cM k ρ ρ'){v:SV}(hv:v.lt k=true):v.den ρ'=v.den ρ:=by
 cases v with
 |v ag cs=>exact uD h hv
 |dC l=>simp only[SV.den];congr 1;exact zav fun p hp=>uD h (List.all_eq_true.1 hv p hp)
 |undef=>rfl
 |ve f bs cs =>
  have hv:(ya k bs&&ya k cs)=true:=hv;rw[za]at hv;simp only[SV.den];rw[lu h hv.1,lu h hv.2]
 |slt q e sz =>
  have hv:(Nat.blt q k&&e.lt k)=true:=hv;rw[za]at hv;simp only[SV.den];rw[h _ (av hv.1),LE.bG h hv.2]
 |yl q=>simp only[SV.den];rw[h _ (av hv)]
def D1:List (Bool×List SC)->List (Bool×List SC)->Bool
 | [],[]=>true
 |x::xs,y::ys=>(x.1==y.1)&&(oC x.2 y.2&&D1 xs ys)
 |_,_=>false
theorem AZ:∀{xs ys:List (Bool×List SC)},D1 xs ys=true->∀ρ,xs.map (dS ρ)=ys.map (dS ρ)
 | [],[],_,ρ=>rfl
 |x::xs,y::ys,h,ρ=>by
  simp only[D1,za,beq_iff_eq]at h;obtain⟨h1,h2,h3⟩:=h;rw[zal,zal,AZ h3 ρ];congr 1;unfold dS;rw[h1,jM h2 ρ]
 | [],_::_,h,_=>by cases h
 |_::_,[],h,_=>by cases h
def SV.same:SV->SV->Bool
 |.v a cs,.v a' cs'=>(a==a')&&oC cs cs'
 |.dC l,.dC l'=>D1 l l'
 |.undef,.undef=>true
 |.ve f bs cs,.ve f' bs' cs'=>Nat.beq f f'&&(oC bs bs'&&oC cs cs')
 |.slt q e sz,.slt q' e' sz'=>Nat.beq q q'&&(e.same e'&&Nat.beq sz sz')
 |.yl q,.yl q'=>Nat.beq q q'
 |_,_=>false
theorem SV.aN {x y:SV}(h:x.same y=true)(ρ:aZ):x.den ρ=y.den ρ:=by
 cases x<;>cases y<;>simp only[SV.same,zag,za,beq_iff_eq]at h
 ·obtain⟨rfl,h⟩:=h;simp only[SV.den,dS];rw[jM h ρ]
 ·simp only[SV.den];rw[AZ h ρ]
 ·rfl
 ·obtain⟨h1,h2,h⟩:=h;have:=zab h1;subst this;simp only[SV.den];rw[jM h2 ρ,jM h ρ]
 ·obtain⟨h1,h2,h3⟩:=h;have:=zab h1;have:=zab h3;subst_vars;simp only[SV.den];rw[LE.aN h2 ρ]
 ·have:=zab h;subst_vars;rfl
def ig (ρ:aZ):Nat->Nat|0=>0|k+1=>(ρ k).nn
def bJ (n g:Nat):Bool:=Nat.ble g n
theorem ba {k:Nat}{ρ ρ':aZ}(h:cM k ρ ρ'){g:Nat}(hg:bJ k g=true):ig ρ' g=ig ρ g:=by
 cases g with
 |zero=>rfl
 |succ g=>have:=aK hg;simp only[ig];rw[h g (by omega)]
inductive c6 where
 |sl (x c g:Nat)|pt (x c g:Nat)|mp (x c g:Nat)|el (x c:Nat) (e:LE) (off:Nat) (v:SC)|sj (g:Nat) (e:LE) (v:SC)
def c6.den (ρ:aZ):c6->TF
 |.sl x c g=>.sl (ρ x).vv c (ig ρ g) (ρ x).ns
 |.pt x c g=>.pt (ρ x).vv c (ig ρ g)
 |.mp x c g=>.mp (ρ x).vv c (ig ρ g)
 |.el x c e off v=>.el (ρ x).vv c (e.ev ρ).toNat off (v.den ρ)
 |.sj g e v=>.sj (ig ρ g) (e.ev ρ).toNat (v.den ρ)
def c6.lt (n:Nat):c6->Bool
 |.sl x _ g=>Nat.blt x n&&bJ n g
 |.pt x _ g=>Nat.blt x n&&bJ n g
 |.mp x _ g=>Nat.blt x n&&bJ n g
 |.el x _ e _ v=>Nat.blt x n&&(e.lt n&&v.lt n)
 |.sj g e v=>bJ n g&&(e.lt n&&v.lt n)
theorem c6.bG {k:Nat}{ρ ρ':aZ}(h:cM k ρ ρ'){f:c6}(hf:f.lt k=true):f.den ρ'=f.den ρ:=by
 cases f with
 |el x c e off v=>simp only[c6.lt,za]at hf;simp only[c6.den];rw[h _ (av hf.1),LE.bG h hf.2.1,SC.bG h hf.2.2]
 |sj g e v=>simp only[c6.lt,za]at hf;simp only[c6.den];rw[ba h hf.1,LE.bG h hf.2.1,SC.bG h hf.2.2]
 |_=>simp only[c6.lt,za]at hf;simp only[c6.den];rw[h _ (av hf.1),ba h hf.2]
def c6.beq:c6->c6->Bool
 |.sl x c g,.sl x' c' g'=>Nat.beq x x'&&(Nat.beq c c'&&Nat.beq g g')
 |.pt x c g,.pt x' c' g'=>Nat.beq x x'&&(Nat.beq c c'&&Nat.beq g g')
 |.mp x c g,.mp x' c' g'=>Nat.beq x x'&&(Nat.beq c c'&&Nat.beq g g')
 |_,_=>false
theorem c6.ai {x y:c6}(h:x.beq y=true):x=y:=by
 cases x<;>cases y<;>simp only[c6.beq,zag,za]at h
 all_goals (obtain⟨h1,h2,h3⟩:=h;have:=zab h1;have:=zab h2;have:=zab h3;subst_vars;rfl)
def Ra (n:Nat):Option (SV×Option (Bool×List SC))->Bool
 |none=>true
 |some (k,none)=>k.lt n
 |some (k,some x)=>k.lt n&&ya n x.2
theorem Ir {k:Nat}{ρ ρ':aZ}(h:cM k ρ ρ'){q:Option (SV×Option (Bool×List SC))}(hq:Ra k q=true):(q.map fun p=>(p.1.den ρ',p.2.map (dS ρ')))=q.map fun p=>(p.1.den ρ,p.2.map (dS ρ)):=by
 match q,hq with
 |none,_=>rfl
 |some (x,none),hq=>simp only[zbk,zbx];rw[SV.bG h hq]
 |some (x,some y),hq =>
  have hq:(x.lt k&&ya k y.2)=true:=hq;rw[za]at hq;simp only[zbk];rw[SV.bG h hq.1,uD h hq.2]
inductive SO where
 |loc (b:Nat) (el:TypeId) (cs:List SC)
 |iF (x c g:Nat)
 |em (b:Nat) (pk:KK)
 |ul (x c g:Nat)
 |am (b g k:Nat)
 |im (b:Nat) (e:LE)
 |bl (x m:Nat) (el:TypeId)
 |km (b c g:Nat) (n:LE)
 |kq (b c g:Nat) (n:LE) (q:Option (SV×Option (Bool×List SC)))
 |rm (x c g:Nat) (n:LE)
 |it (b:Nat) (m:SC) (n r:LE) (st ty:Bool)
 |ms (b x c g:Nat) (f:LE) (q:Option SC)
def SO.den (ρ:aZ):SO->Own
 |.loc b el cs=>.loc (ρ b).nn el (aB ρ cs)
 |.iF x c g=>.iF (ρ x).vv c (ig ρ g) (ρ x).ns
 |.em b pk=>.map (ρ b).nn pk []
 |.ul x c g=>.ul (ρ x).vv c (ig ρ g) (ρ x).ns.length
 |.am b g k=>.am (ρ b).nn (ig ρ g) k
 |.im b e=>.im (ρ b).nn (e.ev ρ).toNat
 |.bl x m el=>.bl (ρ x).vv el (ρ m).ns
 |.km b c g n=>.km (ρ b).nn c (ig ρ g) (n.ev ρ).toNat
 |.kq b c g n q=>.kq (ρ b).nn c (ig ρ g) (n.ev ρ).toNat (q.map fun p=>(p.1.den ρ,p.2.map (dS ρ)))
 |.rm x c g n=>.rm (ρ x).vv c (ig ρ g) (n.ev ρ).toNat
 |.it b m n r st ty=>.it (ρ b).nn (m.den ρ) (n.ev ρ).toNat (r.ev ρ).toNat st ty
 |.ms b x c g f q=>.ms (ρ b).nn (ρ x).vv c (ig ρ g) (f.ev ρ).toNat (q.map (SC.den ρ))
def SO.lt (n:Nat):SO->Bool
 |.loc b _ cs=>Nat.blt b n&&ya n cs
 |.iF x _ g=>Nat.blt x n&&bJ n g
 |.em b _=>Nat.blt b n
 |.ul x _ g=>Nat.blt x n&&bJ n g
 |.am b g _=>Nat.blt b n&&bJ n g
 |.im b e=>Nat.blt b n&&e.lt n
 |.bl x m _=>Nat.blt x n&&Nat.blt m n
 |.km b _ g k=>Nat.blt b n&&(bJ n g&&k.lt n)
 |.kq b _ g k q=>Nat.blt b n&&(bJ n g&&(k.lt n&&Ra n q))
 |.rm x _ g k=>Nat.blt x n&&(bJ n g&&k.lt n)
 |.it b m k r _ _=>Nat.blt b n&&(m.lt n&&(k.lt n&&r.lt n))
 |.ms b x _ g f q=>Nat.blt b n&&(Nat.blt x n&&(bJ n g&&(f.lt n&&(match q with|some y=>y.lt n|none=>true))))
theorem SO.bG {k:Nat}{ρ ρ':aZ}(h:cM k ρ ρ'){o:SO}(ho:o.lt k=true):o.den ρ'=o.den ρ:=by
 cases o with
 |loc b el cs=>simp only[SO.lt,za]at ho;simp only[SO.den];rw[h _ (av ho.1),lu h ho.2]
 |iF x c g=>simp only[SO.lt,za]at ho;simp only[SO.den];rw[h _ (av ho.1),ba h ho.2]
 |em b pk=>simp only[SO.den];rw[h _ (av ho)]
 |ul x c g=>simp only[SO.lt,za]at ho;simp only[SO.den];rw[h _ (av ho.1),ba h ho.2]
 |am b g k=>simp only[SO.lt,za]at ho;simp only[SO.den];rw[h _ (av ho.1),ba h ho.2]
 |im b e=>simp only[SO.lt,za]at ho;simp only[SO.den];rw[h _ (av ho.1),LE.bG h ho.2]
 |bl x m el=>simp only[SO.lt,za]at ho;simp only[SO.den];rw[h _ (av ho.1),h _ (av ho.2)]
 |km b c g n=>simp only[SO.lt,za]at ho;simp only[SO.den];rw[h _ (av ho.1),ba h ho.2.1,LE.bG h ho.2.2]
 |kq b c g n q=>simp only[SO.lt,za]at ho;simp only[SO.den];rw[h _ (av ho.1),ba h ho.2.1,LE.bG h ho.2.2.1,Ir h ho.2.2.2]
 |rm x c g n=>simp only[SO.lt,za]at ho;simp only[SO.den];rw[h _ (av ho.1),ba h ho.2.1,LE.bG h ho.2.2]
 |it b m n r st ty=>simp only[SO.lt,za]at ho;simp only[SO.den];rw[h _ (av ho.1),SC.bG h ho.2.1,LE.bG h ho.2.2.1,LE.bG h ho.2.2.2]
 |ms b x c g f q =>
  simp only[SO.lt,za]at ho;simp only[SO.den];rw[h _ (av ho.1),h _ (av ho.2.1),ba h ho.2.2.1,LE.bG h ho.2.2.2.1];cases q with
  |none=>rfl
  |some y=>simp only[zbk];rw[SC.bG h (show y.lt k=true from ho.2.2.2.2)]
def SO.Na:SO->Bool
 |.it _ _ _ _ _ ty=>!ty
 |_=>true
theorem SO.Is {o:SO}(h:o.Na=true)(ρ:aZ):(o.den ρ).Q7=false:=by
 cases o with
 |it b m n r st ty=>show ty=false;cases ty with
                                  |false=>rfl
                                  |true=>cases h
 |_=>rfl
def F7:KK->KK->Bool
 |.str,.str=>true|.pair,.pair=>true|.int,.int=>true|.jj,.jj=>true|.mE,.mE=>true|.Ie,.Ie=>true
 |_,_=>false
theorem pj {a b:KK}(h:F7 a b=true):a=b:=by cases a<;>cases b<;>first|rfl|cases h
def Nb:Option (SV×Option (Bool×List SC))->Option (SV×Option (Bool×List SC))->Bool
 |none,none=>true
 |some (k,none),some (k',none)=>k.same k'
 |some (k,some x),some (k',some x')=>k.same k'&&((x.1==x'.1)&&oC x.2 x'.2)
 |_,_=>false
theorem It {q q':Option (SV×Option (Bool×List SC))}(h:Nb q q'=true)(ρ:aZ):(q.map fun p=>(p.1.den ρ,p.2.map (dS ρ)))=q'.map fun p=>(p.1.den ρ,p.2.map (dS ρ)):=by
 match q,q',h with
 |none,none,_=>rfl
 |some (k,none),some (k',none),h =>
  have h:k.same k'=true:=h;simp only[zbk,zbx];rw[SV.aN h ρ]
 |some (k,some x),some (k',some x'),h =>
  have h:(k.same k'&&((x.1==x'.1)&&oC x.2 x'.2))=true:=h;simp only[za,beq_iff_eq]at h;simp only[zbk];rw[SV.aN h.1 ρ];unfold dS;rw[h.2.1,jM h.2.2 ρ]
def SO.same:SO->SO->Bool
 |.loc b el cs,.loc b' el' cs'=>Nat.beq b b'&&(Nat.beq el el'&&oC cs cs')
 |.iF x c g,.iF x' c' g'=>Nat.beq x x'&&(Nat.beq c c'&&Nat.beq g g')
 |.em b pk,.em b' pk'=>Nat.beq b b'&&F7 pk pk'
 |.ul x c g,.ul x' c' g'=>Nat.beq x x'&&(Nat.beq c c'&&Nat.beq g g')
 |.am x c g,.am x' c' g'=>Nat.beq x x'&&(Nat.beq c c'&&Nat.beq g g')
 |.im b e,.im b' e'=>Nat.beq b b'&&e.same e'
 |.bl x c g,.bl x' c' g'=>Nat.beq x x'&&(Nat.beq c c'&&Nat.beq g g')
 |.km x c g n,.km x' c' g' n'=>Nat.beq x x'&&(Nat.beq c c'&&(Nat.beq g g'&&n.same n'))
 |.kq x c g n q,.kq x' c' g' n' q'=>Nat.beq x x'&&(Nat.beq c c'&&(Nat.beq g g'&&(n.same n'&&Nb q q')))
 |.it b m n r st ty,.it b' m' n' r' st' ty'=>Nat.beq b b'&&(m.same m'&&(n.same n'&&(r.same r'&&(st==st'&&ty==ty'))))
 |.ms b x c g f q,.ms b' x' c' g' f' q'=>Nat.beq b b'&&(Nat.beq x x'&&(Nat.beq c c'&&(Nat.beq g g'&&(f.same f'&&(match q,q' with|none,none=>true|some y,some y'=>y.same y'|_,_=>false)))))
 |_,_=>false
theorem SO.aN {x y:SO}(h:x.same y=true)(ρ:aZ):x.den ρ=y.den ρ:=by
 cases x<;>cases y<;>simp only[SO.same,zag,za]at h
 ·obtain⟨h1,h2,h3⟩:=h;have:=zab h1;have:=zab h2;subst_vars;simp only[SO.den];rw[jM h3 ρ]
 ·obtain⟨h1,h2,h3⟩:=h;have:=zab h1;have:=zab h2;have:=zab h3;subst_vars;rfl
 ·obtain⟨h1,h2⟩:=h;have:=zab h1;have:=pj h2;subst_vars;rfl
 ·obtain⟨h1,h2,h3⟩:=h;have:=zab h1;have:=zab h2;have:=zab h3;subst_vars;rfl
 ·obtain⟨h1,h2,h3⟩:=h;have:=zab h1;have:=zab h2;have:=zab h3;subst_vars;rfl
 ·obtain⟨h1,h2⟩:=h;have:=zab h1;subst_vars;simp only[SO.den];rw[LE.aN h2 ρ]
 ·obtain⟨h1,h2,h3⟩:=h;have:=zab h1;have:=zab h2;have:=zab h3;subst_vars;rfl
 ·obtain⟨h1,h2,h3,h4⟩:=h;have:=zab h1;have:=zab h2;have:=zab h3;subst_vars;simp only[SO.den];rw[LE.aN h4 ρ]
 ·obtain⟨h1,h2,h3,h4,h5⟩:=h;have:=zab h1;have:=zab h2;have:=zab h3;subst_vars;simp only[SO.den];rw[LE.aN h4 ρ,It h5 ρ]
 ·obtain⟨h1,h2,h3,h4,h5,h6⟩:=h;have:=zab h1;have:=eq_of_beq h5;have:=eq_of_beq h6;subst_vars;simp only[SO.den];rw[SC.aN h2 ρ,LE.aN h3 ρ,LE.aN h4 ρ]
 ·rename_i q _ _ _ _ _ q';obtain⟨h1,h2,h3,h4,h5,h6⟩:=h;have:=zab h1;have:=zab h2;have:=zab h3;have:=zab h4;subst_vars;simp only[SO.den];rw[LE.aN h5 ρ];cases q<;>cases q'<;>first|rfl|cases h6|skip
  rename_i y y';simp only[zbk];rw[SC.aN (show y.same y'=true from h6) ρ]
structure SS where
 nx:Nat
 L:List (Nat×SV)
 os:List SO
 ty:List c6
 gs:List (Nat×Nat×Bool)
 fs:List LE
 bs:List (Nat×Bool)
 pw:List (Nat×LE×LE)
 ats:List (Nat×SC×LE)
 cU:List (Nat×LE×LE)
 ne:List LE
 fz:List Nat
 sb:List (Nat×Nat)
def SS.den (ρ:aZ)(s:SS):St:=⟨s.L.map fun p=>(p.1,p.2.den ρ),s.os.map (SO.den ρ),s.ty.map (c6.den ρ),s.gs.map fun p=>(ig ρ p.1,(ρ p.2.1).gg,p.2.2)⟩
def po (d:Gd)(v:AV):Option Nat:=match v with|.str l m=>d.at_ l m|.int _ (.ofNat n)=>d.wn n|_=>none
def Kc (ρ:aZ)(p:Nat×SC×LE):Prop:=(0<=p.2.2.ev ρ/\po (ρ p.1).gg (p.2.1.den ρ)=some (p.2.2.ev ρ).toNat)∨(p.2.2.ev ρ<0/\po (ρ p.1).gg (p.2.1.den ρ)=none)
structure Sat (ρ:aZ) (s:SS):Prop where
 fs:∀f∈s.fs,0<=f.ev ρ
 bs:∀p∈s.bs,(ρ p.1).bb=p.2
 pw:∀p∈s.pw,0<=p.2.1.ev ρ/\((((ρ p.1).ns.take (p.2.1.ev ρ).toNat).sum:Nat):Int)+p.2.1.ev ρ=p.2.2.ev ρ
 ats:∀p∈s.ats,Kc ρ p
 cU:∀p∈s.cU,0<=p.2.1.ev ρ/\(ρ p.1).gg.fz=true/\(((ρ p.1).gg.fl (p.2.1.ev ρ).toNat:Nat):Int)=p.2.2.ev ρ
 ne:∀e∈s.ne,e.ev ρ≠0
 fz:∀d∈s.fz,(ρ d).gg.fz=true
 sb:∀p∈s.sb,(ρ p.1).gg.sub=ig ρ p.2
def SS.ok (s:SS):Bool :=
 (s.L.all fun p=>p.2.lt s.nx)&&((s.os.all (SO.lt s.nx))&&((s.ty.all (c6.lt s.nx))&&((s.gs.all fun p=>bJ s.nx p.1&&Nat.blt p.2.1 s.nx)&&((s.fs.all (LE.lt s.nx))&&((s.bs.all fun p=>Nat.blt p.1 s.nx) &&
 ((s.pw.all fun p=>Nat.blt p.1 s.nx&&(p.2.1.lt s.nx&&p.2.2.lt s.nx))&&((s.ats.all fun p=>Nat.blt p.1 s.nx&&(p.2.1.lt s.nx&&p.2.2.lt s.nx))&&((s.cU.all fun p=>Nat.blt p.1 s.nx&&(p.2.1.lt s.nx&&p.2.2.lt s.nx))&&((s.ne.all (LE.lt s.nx))&&((s.fz.all fun d=>Nat.blt d s.nx)&&(s.sb.all fun p=>Nat.blt p.1 s.nx&&bJ s.nx p.2)))))))))))
theorem SS.bG {s:SS}(hs:s.ok=true){ρ ρ':aZ}(h:cM s.nx ρ ρ'):s.den ρ'=s.den ρ/\(Sat ρ s->Sat ρ' s):=by
 unfold SS.ok at hs;simp only[za,zb]at hs;obtain⟨h1,h2,h3,h4,h5,h6,h7,h8,h9,h10,h11,h12⟩:=hs;refine⟨?_,fun hsat=>⟨fun f hf=>?_,fun p hp=>?_,fun p hp=>?_,fun p hp=>?_,fun p hp=>?_,fun e he=>?_,fun d hd=>?_,fun p hp=>?_⟩⟩
 ·unfold SS.den;congr 1
  ·exact zav fun p hp=>by rw[SV.bG h (h1 p hp)]
  ·exact zav fun o ho=>SO.bG h (h2 o ho)
  ·exact zav fun f hf=>c6.bG h (h3 f hf)
  ·exact zav fun p hp=>by rw[ba h (h4 p hp).1,h _ (av (h4 p hp).2)]
 ·rw[LE.bG h (h5 f hf)];exact hsat.fs f hf
 ·rw[h _ (av (h6 p hp))];exact hsat.bs p hp
 ·obtain⟨k1,k2,k3⟩:=h7 p hp;rw[LE.bG h k2,LE.bG h k3,h _ (av k1)];exact hsat.pw p hp
 ·obtain⟨k1,k2,k3⟩:=h8 p hp;unfold Kc;rw[SC.bG h k2,LE.bG h k3,h _ (av k1)];exact hsat.ats p hp
 ·obtain⟨k1,k2,k3⟩:=h9 p hp;rw[LE.bG h k2,LE.bG h k3,h _ (av k1)];exact hsat.cU p hp
 ·rw[LE.bG h (h10 e he)];exact hsat.ne e he
 ·rw[h _ (av (h11 d hd))];exact hsat.fz d hd
 ·rw[h _ (av (h12 p hp).1),ba h (h12 p hp).2];exact hsat.sb p hp
end Go.Rd
namespace Go.Rt
open Go.aI Go.RowKit
def yb (ops:Array Oper):Array Oper:=ops.map fun o=>{ o with guard:=none }
theorem jN (ops:Array Oper)(i:Nat):af (yb ops) i={ af ops i with guard:=none }:=by
 unfold af yb;rw[zah,zah,Array.getElem?_map];cases ops[i]?<;>rfl
theorem iz {ops:Array Oper}{T:Tm}{g dg:Nat}{b:Bool}{a:Act}{ι:En}{nt:Nat}(hdg:(af ops g).dst=some dg)(ht:bW ι nt T a)(hlk:T.at dg=.bool b):Go.yielded ops a.tmps g=some b:=by
 cases ho:ops[g]? with
 |none =>
  unfold af at hdg;rw[zah,ho]at hdg;cases hdg
 |some o =>
  have e:af ops g=o:=by unfold af;rw[zah,ho];rfl
  rw[e]at hdg;have hv:=ht.val dg;rw[hlk]at hv
  have:a.tmps[dg]?=some (.bool b):=by
   rw[zah]at hv;cases h:a.tmps[dg]? with
   |none=>rw[h]at hv;simp[ak,undef]at hv
   |some x=>rw[h]at hv;simpa [ak] using hv
  unfold Go.yielded;rw[ho];simp[hdg,this]
def K8:BinOp->Int->Int->Bool
 |.lss,a,b=>decide (a<b)
 |.leq,a,b=>decide (a<=b)
 |.gtr,a,b=>decide (a > b)
 |.geq,a,b=>decide (a ≥ b)
 |.eql,a,b=>decide (a=b)
 |.neq,a,b=>decide (a≠b)
 |_,_,_=>false
def oD:BinOp->Bool
 |.lss|.leq|.gtr|.geq|.eql|.neq=>true
 |_=>false
def tg:BinOp->Bool
 |.add|.sub|.mul=>true
 |_=>false
def Ud:BinOp->Int->Int->Int
 |.add,a,b=>a+b
 |.sub,a,b=>a-b
 |.mul,a,b=>a*b
 |_,_,_=>0
def nI:AV->Bool
 |.ab=>true
 |.dY=>true
 |.bg=>true
 |_=>false
def Vl (v:AV):Prop:=v=.ab∨∃b o l cap,v=.cN b o l cap
def Ue (v:AV):Prop:=v=.dY∨∃b o,v=.cu b o
def Uf (v:AV):Prop:=v=.bg∨∃b,v=.cV b
def D4:TypeDesc->AV->AV->Prop
 |.slice _,v,w=>Vl v/\w=.ab
 |.pointer _,v,w=>Ue v/\w=.dY
 |.map _ _,v,w=>Uf v/\w=.bg
 |_,_,_=>False
def rv {α:Type}(o:Nat)(l C:List α):List α:=C.take o++l++C.drop (o+l.length)
theorem D5 {α β:Type}(f:α->β)(o:Nat)(l C:List α):(rv o l C).map f=rv o (l.map f) (C.map f):=by simp[rv]
theorem th {α:Type}{o:Nat}{l C:List α}(h:o+l.length<=C.length):(rv o l C).length=C.length:=by simp only[rv,zak,zaf,zas];omega
theorem ti {α:Type}{o:Nat}{l C:List α}(h:o+l.length<=C.length)(k:Nat):(rv o l C)[k]?=if o<=k/\k<o+l.length then l[k-o]? else C[k]?:=by
 unfold rv;by_cases h1:k<o
 ·rw[if_neg (by omega),zbc,zau (by rw[zaf];omega),zbd h1]
 ·by_cases h2:k<o+l.length
  ·rw[if_pos ⟨by omega,h2⟩,zbc,zay (by rw[zaf];omega),zau (by rw[zaf];omega),zaf,zcl (by omega)]
  ·rw[if_neg (by omega),zay (by rw[zak,zaf];omega),zbb];congr 1;rw[zak,zaf];omega
theorem CA {o:Nat}{l C:List AV}(h:o+l.length<=C.length):fh o l C=rv o l C:=by
 apply zdh;intro k;rw[oM _ _ _ h,ti h]
section
variable {P:Program}{n0 nt:Nat}{T T2:Tm}{hp H:Tr AO}{nx X:Pz}{G:GH}{ops:Array Oper}{aF:List Nat}{i m d:Nat}{v u:AV}
theorem bH.at {y:Operand}(h:bH nt T y u){B:Nat->Prop}{w0:World}{ι:En}{a:Act}{w:World}(hs:c8 n0 B w0 nt T hp nx G ι a w):a.eval y=ak ι u:=h ι a (hs.1.2 ι (al.refl _ _)).1
theorem CC {g dg:Nat}{b:Bool}(hg:(af ops i).guard=some (g,b))(hdg:(af ops g).dst=some dg)(hlk:T.at dg=.bool b)(h:bq P (yb ops) n0 nt i T hp nx G v):bq P ops n0 nt i T hp nx G v:=by
 intro B w0 ι a w hs;have hy:=iz hdg (hs.1.2 ι (al.refl _ _)).1 hlk;rcases h B w0 ι a w hs with ⟨h1,h2⟩|⟨h1,h2⟩
 ·refine .inl ⟨by simp[Region.wanted,hg,hy],?_⟩;rw[jN]at h2;exact h2
 ·rw[jN]at h1;simp[Region.wanted]at h1
theorem uE {g dg:Nat}{b b':Bool}(hg:(af ops i).guard=some (g,b))(hdg:(af ops g).dst=some dg)(hlk:T.at dg=.bool b')(hne:b'≠b):bq P ops n0 nt i T hp nx G aE:=by
 intro B w0 ι a w hs;have hy:=iz hdg (hs.1.2 ι (al.refl _ _)).1 hlk;refine .inr ⟨?_,by simp[du]⟩;simp[Region.wanted,hg,hy,hne]
theorem uF {g dg:Nat}{b:Bool}(hg:(af ops i).guard=some (g,b))(hdg:(af ops g).dst=some dg)(hlk:T.at dg=aE):bq P ops n0 nt i T hp nx G aE:=by
 intro B w0 ι a w hs;refine .inr ⟨?_,by simp[du]⟩
 have hy:Go.yielded ops a.tmps g=none:=by
  have hv:=(hs.1.2 ι (al.refl _ _)).1.val dg;rw[hlk,du]at hv;unfold Go.yielded;cases ho:ops[g]? with
  |none=>rfl
  |some o =>
   have e:af ops g=o:=by unfold af;rw[zah,ho];rfl
   rw[e]at hdg;cases h:a.tmps[dg]? with
   |none=>simp[hdg,h]
   |some x =>
    rw[zah,h]at hv;have hv:x=undef:=hv;simp[hdg,h,hv,undef]
 simp[Region.wanted,hg,hy]
theorem CD {R:Tm->Tr AO->Pz->GH->Prop}{g dg:Nat}{b:Bool}(hg:(af ops i).guard=some (g,b))(hdg:(af ops g).dst=some dg)(hlk:T.at dg=.bool b)(h:gm P n0 nt (yb ops) i T hp nx G R):gm P n0 nt ops i T hp nx G R:=by
 intro B w0 ι a w hs;have hy:=iz hdg (hs.1.2 ι (al.refl _ _)).1 hlk;rcases h B w0 ι a w hs with ⟨h1,h2⟩|⟨h1,h2⟩
 ·refine .inl ⟨by simp[Region.wanted,hg,hy],?_⟩;rw[jN]at h2;exact h2
 ·rw[jN]at h1;simp[Region.wanted]at h1
theorem bq.Rb (hg:(af ops i).guard=none){x:Operand}(ho:(af ops i).op=.move x∨(af ops i).op=.assign x)(hx:bH nt T x v):bq P ops n0 nt i T hp nx G v:=by
 refine cY hg fun B w0 ι a w hs=>?_;rcases ho with ho|ho<;>(simp only[execOp,ho];rw[bH.at hx hs];rfl)
theorem bq.Iu (hg:(af ops i).guard=none){x:Operand}{k:Nat}{vs:List AV}(ho:(af ops i).op=.extract x k)(hx:bH nt T x (.dC vs))(hv:vs[k]?=some v):bq P ops n0 nt i T hp nx G v:=by
 refine cY hg fun B w0 ι a w hs=>?_;simp only[execOp,ho];rw[bH.at hx hs];have:(ao ι vs).toArray[k]?=some (ak ι v):=by rw[zao,bu,hv];rfl
 simp[ak,Instr.extract,this]
theorem bq.Iv (hg:(af ops i).guard=none){t ft:TypeId}{x:Operand}{f off:Nat}{cs:List AV}(ho:(af ops i).op=.field t x f)(hf:fq P t f=some (off,ft))(hx:bH nt T x (.agg cs))(hv:∀ι w,(part ft (ao ι cs).toArray off).run P w=.ok (ak ι v) w):bq P ops n0 nt i T hp nx G v:=by
 obtain⟨fs,fd,h1,h2,h3,h4⟩:=j0 hf;refine cY hg fun B w0 ι a w hs=>?_;simp only[execOp,ho];rw[bH.at hx hs];simp only[ak,Instr.field,Sem.run_bind,ay h1,Result.andThen_ok,h2,Go.asAgg,Sem.run_pure];rw[h4,h3,hv];rfl
theorem bq.Nc (hg:(af ops i).guard=none){c x y:Operand}{b:Bool}(ho:(af ops i).op=.pick c x y)(hc:bH nt T c (.bool b))(hx:b=true->bH nt T x v)(hy:b=false->bH nt T y v):bq P ops n0 nt i T hp nx G v:=by
 refine cY hg fun B w0 ι a w hs=>?_;simp only[execOp,ho];rw[bH.at hc hs];cases b with
 |true=>rw[bH.at (hx rfl) hs];simp[ak,asBool]
 |false=>rw[bH.at (hy rfl) hs];simp[ak,asBool]
theorem bq.Ug (hg:(af ops i).guard=none){op:BinOp}{t yt:TypeId}{x y:Operand}{k:IntKind}{a b:Int}(ho:(af ops i).op=.binOp op t x y yt)(hr:oD op=true)(hx:bH nt T x (.int k a))(hy:bH nt T y (.int k b)):bq P ops n0 nt i T hp nx G (.bool (K8 op a b)):=by
 refine cY hg fun B w0 ι a' w hs=>?_;simp only[execOp,ho];rw[bH.at hx hs,bH.at hy hs];cases op<;>first|(simp[oD]at hr;done)|(simp[ak,eqGuard,binOp,Op.intCmp,K8];try rfl)
theorem bq.V1 (hg:(af ops i).guard=none){op:BinOp}{t yt:TypeId}{x y:Operand}{k:IntKind}{a b:Int}(ho:(af ops i).op=.binOp op t x y yt)(hr:tg op=true)(hx:bH nt T x (.int k a))(hy:bH nt T y (.int k b)):bq P ops n0 nt i T hp nx G (.int k (k.wrap (Ud op a b))):=by
 refine cY hg fun B w0 ι a' w hs=>?_;simp only[execOp,ho];rw[bH.at hx hs,bH.at hy hs];cases op<;>first|(simp[tg]at hr;done)|(simp[ak,eqGuard,binOp,Op.intArith,Ud];try rfl)
theorem bq.OU (hg:(af ops i).guard=none){op:BinOp}{t yt:TypeId}{x y:Operand}{k:IntKind}{a b:Int}(ho:(af ops i).op=.binOp op t x y yt)(hr:op=.and∨op=.or∨op=.xor)(hx:bH nt T x (.int k a))(hy:bH nt T y (.int k b)):∃r,bq P ops n0 nt i T hp nx G (.int k r):=by
 have h:∃r,∀ι w,(binOp op t (ak ι (.int k a)) (ak ι (.int k b))).run P w=.ok (ak ι (.int k r)) w:=by
  rcases hr with rfl|rfl|rfl<;>exact⟨_,fun ι w=>by simp[ak,binOp,Op.intBits];rfl⟩
 obtain⟨r,h⟩:=h;refine⟨r,cY hg fun B w0 ι a' w hs=>?_⟩;simp only[execOp,ho];rw[bH.at hx hs,bH.at hy hs];have e:(eqGuard op t x y (ak ι (.int k a)) (ak ι (.int k b))).run P w=.ok () w:=by rcases hr with rfl|rfl|rfl<;>simp[eqGuard]
 simp only[Sem.run_bind,e,Result.andThen_ok,h,Sem.run_pure]
theorem bq.Uh (hg:(af ops i).guard=none){op:BinOp}{t yt:TypeId}{x y:Operand}{k:IntKind}{a b:Int}(ho:(af ops i).op=.binOp op t x y yt)(hr:op=.quo∨op=.rem)(hb:b≠0)(hx:bH nt T x (.int k a))(hy:bH nt T y (.int k b)):∃r,(op=.quo->r=k.wrap (a.tdiv b))/\(op=.rem->r=a.tmod b)/\bq P ops n0 nt i T hp nx G (.int k r):=by
 have h:∃r,(op=.quo->r=k.wrap (a.tdiv b))/\(op=.rem->r=a.tmod b)/\∀ι w,(binOp op t (ak ι (.int k a)) (ak ι (.int k b))).run P w=.ok (ak ι (.int k r)) w:=by
  rcases hr with rfl|rfl
  ·exact⟨_,fun _=>rfl,(fun h=>by cases h),fun ι w=>by simp[ak,binOp,Op.intDiv,hb]⟩
  ·exact⟨_,(fun h=>by cases h),fun _=>rfl,fun ι w=>by simp[ak,binOp,Op.intDiv,hb]⟩
 obtain⟨r,h1,h2,h⟩:=h;refine⟨r,h1,h2,cY hg fun B w0 ι a' w hs=>?_⟩;simp only[execOp,ho];rw[bH.at hx hs,bH.at hy hs];have e:(eqGuard op t x y (ak ι (.int k a)) (ak ι (.int k b))).run P w=.ok () w:=by rcases hr with rfl|rfl<;>simp[eqGuard]
 simp only[Sem.run_bind,e,Result.andThen_ok,h,Sem.run_pure]
theorem bq.Vm (hg:(af ops i).guard=none){op:BinOp}{t yt:TypeId}{x y:Operand}{k k':IntKind}{a b:Int}(ho:(af ops i).op=.binOp op t x y yt)(hr:op=.shl∨op=.shr)(hb:0<=b)(hx:bH nt T x (.int k a))(hy:bH nt T y (.int k' b)):∃r,bq P ops n0 nt i T hp nx G (.int k r):=by
 have h:∃r,∀ι w,(binOp op t (ak ι (.int k a)) (ak ι (.int k' b))).run P w=.ok (ak ι (.int k r)) w:=by
  have hb':¬b<0:=by omega
  rcases hr with rfl|rfl<;>exact⟨_,fun ι w=>by simp[ak,binOp,Op.shift,hb'];rfl⟩
 obtain⟨r,h⟩:=h;refine⟨r,cY hg fun B w0 ι a' w hs=>?_⟩;simp only[execOp,ho];rw[bH.at hx hs,bH.at hy hs];have e:(eqGuard op t x y (ak ι (.int k a)) (ak ι (.int k' b))).run P w=.ok () w:=by rcases hr with rfl|rfl<;>simp[eqGuard]
 simp only[Sem.run_bind,e,Result.andThen_ok,h,Sem.run_pure]
theorem bq.Ui (hg:(af ops i).guard=none){op:BinOp}{t yt:TypeId}{x y:Operand}{l n l' n':Nat}(ho:(af ops i).op=.binOp op t x y yt)(hr:oD op=true)(hx:bH nt T x (.str l n))(hy:bH nt T y (.str l' n')):∃b,(op=.eql->b=aR l n l' n')/\(op=.neq->b=!aR l n l' n')/\bq P ops n0 nt i T hp nx G (.bool b):=by
 have h:∃b,(op=.eql->b=aR l n l' n')/\(op=.neq->b=!aR l n l' n')/\∀ι w,(binOp op t (ak ι (.str l n)) (ak ι (.str l' n'))).run P w=.ok (ak ι (.bool b)) w:=by
  have key:∀ι w,(binOp op t (ak ι (.str l n)) (ak ι (.str l' n'))).run P w=(Op.stringOp op ⟨(bytesOf l n).toArray⟩ ⟨(bytesOf l' n').toArray⟩).run P w:=fun ι w=>by cases op<;>first|(simp[oD]at hr;done)|simp[ak,binOp]
  cases op<;>first|(simp[oD]at hr;done)|skip
  ·exact⟨_,fun _=>rfl,(fun h=>by cases h),fun ι w=>by rw[key];simp[Op.stringOp,toList_mk,dX,ak]⟩
  ·exact⟨_,(fun h=>by cases h),fun _=>rfl,fun ι w=>by rw[key];simp[Op.stringOp,toList_mk,dX,ak]⟩
  all_goals exact⟨_,(fun h=>by cases h),(fun h=>by cases h),fun ι w=>by rw[key];simp only[Op.stringOp,Sem.run_pure,ak];rfl⟩
 obtain⟨b,h1,h2,h⟩:=h;refine⟨b,h1,h2,cY hg fun B w0 ι a' w hs=>?_⟩;simp only[execOp,ho];rw[bH.at hx hs,bH.at hy hs];have e:(eqGuard op t x y (ak ι (.str l n)) (ak ι (.str l' n'))).run P w=.ok () w:=by simp[ak,eqGuard]
 simp only[Sem.run_bind,e,Result.andThen_ok,h,Sem.run_pure]
theorem bq.Uj (hg:(af ops i).guard=none){t:TypeId}{x:Operand}{b:Bool}(ho:(af ops i).op=.unOp .not t x)(hx:bH nt T x (.bool b)):bq P ops n0 nt i T hp nx G (.bool (!b)):=by
 refine cY hg fun B w0 ι a w hs=>?_;simp only[execOp,ho];rw[bH.at hx hs];simp[ak,Op.unary]
theorem bq.Rc (hg:(af ops i).guard=none){s t:TypeId}{x:Operand}{ks kt:IntKind}{n:Int}(ho:(af ops i).op=.convert s t x)(hs:P.underlying s=some (.int ks))(ht:P.underlying t=some (.int kt))(hx:bH nt T x (.int ks n)):bq P ops n0 nt i T hp nx G (.int kt (kt.wrap n)):=by
 refine cY hg fun B w0 ι a w hsat=>?_;simp only[execOp,ho];rw[bH.at hx hsat];simp[ak,convert,ay hs,ay ht,Conv.intToInt]
theorem CG {P:Program}{t:TypeId}{dd:TypeDesc}{v w:AV}(D:Nat)(hu:P.underlying t=some dd)(hn:D4 dd v w)(ι:En)(ww:World):(Op.equalIn (D+1) t (ak ι v) (ak ι w)).run P ww=.ok (nI v) ww:=by
 cases dd with
 |slice e =>
  obtain⟨h1,rfl⟩:=hn;rcases h1 with rfl|⟨b,o,l,cap,rfl⟩<;>simp[ak,Op.equalIn,ay hu,nI]
 |pointer e =>
  obtain⟨h1,rfl⟩:=hn;rcases h1 with rfl|⟨b,o,rfl⟩<;>simp[ak,Op.equalIn,ay hu,nI]
 |map k e =>
  obtain⟨h1,rfl⟩:=hn;rcases h1 with rfl|⟨b,rfl⟩<;>simp[ak,Op.equalIn,ay hu,nI]
 |_=>exact hn.elim
theorem A0 {dd:TypeDesc}{v w:AV}(hn:D4 dd v w)(ι:En):(∃b,ak ι w=.slice none 0 0/\ak ι v=b/\∃x l c,b=.slice x l c)∨(ak ι w=.pointer none/\∃x,ak ι v=.pointer x)∨(ak ι w=.map none/\∃x,ak ι v=.map x):=by
 cases dd with
 |slice e =>
  obtain⟨h1,rfl⟩:=hn;rcases h1 with rfl|⟨b,o,l,cap,rfl⟩
  ·exact .inl ⟨_,by simp[ak],rfl,none,0,0,by simp[ak]⟩
  ·exact .inl ⟨_,by simp[ak],rfl,some (pS b o l cap),l,cap,by simp[ak]⟩
 |pointer e =>
  obtain⟨h1,rfl⟩:=hn;rcases h1 with rfl|⟨b,o,rfl⟩
  ·exact .inr (.inl ⟨by simp[ak],none,by simp[ak]⟩)
  ·exact .inr (.inl ⟨by simp[ak],some ⟨b,o,none⟩,by simp[ak]⟩)
 |map k e =>
  obtain⟨h1,rfl⟩:=hn;rcases h1 with rfl|⟨b,rfl⟩
  ·exact .inr (.inr ⟨by simp[ak],none,by simp[ak]⟩)
  ·exact .inr (.inr ⟨by simp[ak],some b,by simp[ak]⟩)
 |_=>exact hn.elim
theorem bq.Nd (hg:(af ops i).guard=none){t yt:TypeId}{x y:Operand}{w:AV}{dd:TypeDesc}{neq:Bool}(ho:(af ops i).op=.binOp (bif neq then .neq else .eql) t x y yt)(hu:P.underlying t=some dd)(hx:bH nt T x v)(hy:bH nt T y w)(hn:D4 dd v w):bq P ops n0 nt i T hp nx G (.bool (Bool.xor neq (nI v))):=by
 refine cY hg fun B w0 ι a' ww hs=>?_;have hr:(Op.equal t (ak ι v) (ak ι w)).run P ww=.ok (nI v) ww:=CG 9999 hu hn ι ww;simp only[execOp,ho];rw[bH.at hx hs,bH.at hy hs];cases neq<;>rcases A0 hn ι with ⟨_,e1,rfl,x,l,cp,e2⟩|⟨e1,x,e2⟩|⟨e1,x,e2⟩<;>(rw[e1,e2]at hr ⊢;simp[eqGuard,binOp,hr,ak])
noncomputable def uG (place:Nat->Option (Nat×Nat)):List (Nat×AV)->List AV->Option (List AV)
 | [],cs=>some cs
 |p::ps,cs=>match place p.1 with
  |none=>none
  |some (off,size)=>if p.2.cells.length=size/\off+size<=cs.length then uG place ps (rv off p.2.cells cs)else none
theorem uH {place:Nat->Option (Nat×Nat)}(ι:En):∀{ps:List (Nat×AV)}{cs cs':List AV},uG place ps cs=some cs'->Instr.fill place (ao ι cs).toArray (ps.map fun p=>(p.1,ak ι p.2))=some (ao ι cs').toArray
 | [],cs,cs',h=>by cases h;rfl
 |p::ps,cs,cs',h=>by
  unfold uG at h;cases hp:place p.1 with
  |none=>rw[hp]at h;cases h
  |some q =>
   obtain⟨off,size⟩:=q;rw[hp]at h;simp only at h;split at h
   ·rename_i hc;obtain⟨h1,h2⟩:=hc;simp only[zal,Instr.fill,hp];rw[bZ];have e1:(ao ι p.2.cells).toArray.size=size:=by simp[aq,h1]
    have e2:(ao ι cs).toArray.size=cs.length:=by simp[aq]
    rw[if_neg (by rw[e1,e2];simp;omega)];rw[<-zdd,Array.toList_zipIdx,qZ off,zbu,qf ι _ _ _ (by rw[h1];exact h2),CA (by rw[h1];exact h2)];exact uH ι h
   ·cases h
def K9 (nt:Nat)(T:Tm):List (Nat×Operand)->List (Nat×AV)->Prop
 | [],[]=>True
 |x::xs,v::vs=>x.1=v.1/\bH nt T x.2 v.2/\K9 nt T xs vs
 |_,_=>False
theorem K9.map {ι:En}{a:Act}(ha:bW ι nt T a):∀{xs:List (Nat×Operand)}{vs:List (Nat×AV)},K9 nt T xs vs->xs.map (fun p=>(p.1,a.eval p.2))=vs.map fun p=>(p.1,ak ι p.2)
 | [],[],_=>rfl
 |x::xs,v::vs,h=>by
  simp only[zal];rw[h.1,h.2.1 ι a ha,K9.map ha h.2.2]
 | [],_::_,h=>h.elim
 |_::_,[],h=>h.elim
theorem bq.OV (hg:(af ops i).guard=none){t:TypeId}{z:AV}{fs:Array Field}{ps:Array (Nat×Operand)}{places:List (Nat×Nat)}{vs:List (Nat×AV)}{cs:List AV}(ho:(af ops i).op=.build t ps)(hz:zeroOf P t=some z)(hu:P.underlying t=some (.struct fs))
  (hp':fs.toList.mapM (fun f=>(P.info? f.type).map fun i=>(f.offset,i.size))=some places) (hv:K9 nt T ps.toList vs) (h:uG (fun i=>places[i]?) vs z.cells=some cs):bq P ops n0 nt i T hp nx G (.agg cs):=by
 obtain⟨j,zv,h1,h2,h3,h4⟩:=cJ hz;refine cY hg fun B w0 ι a w hs=>?_;have ha:=(hs.1.2 ι (al.refl _ _)).1;have hz':zv.cells=(ao ι z.cells).toArray:=by rw[<-eR 8 zv z h3 ι,bZ]
 have hb:P.built t (ps.map fun x=>(x.1,a.eval x.2)).toList=some (ao ι cs).toArray:=by
  unfold Program.built;simp only[h1,hu,h2,hp'];rw[fM,hz',K9.map ha hv,<-uH ι h];congr 1
  funext i
  simp
 simp only[execOp,ho,Sem.run_bind];rw[show (ps.map fun x=>match x with|(i,x)=>(i,a.eval x))=ps.map fun x=>(x.1,a.eval x.2)from rfl,run_build w t _ _ hb];simp[ak]
theorem D6 (hg:(af ops i).guard=none){c:Call}{t:TypeId}{ats:List TypeId}{x:Operand}(ho:(af ops i).op=.call c)(hc:c.callee=.builtin .len)(hats:c.argTypes.toList=t::ats)(hxa:c.args.toList=[x])(hx:bH nt T x u){n:Nat}(hl:∀ι w,(Builtin.len_ c.argTypes (af ops i).type #[ak ι u]).run P w=.ok (.int .i64 (n:Int)) w):bq P ops n0 nt i T hp nx G (.int .i64 (.ofNat n)):=by
 refine cY hg fun B w0 ι a w hs=>?_
 have hargs:c.args.map a.eval=#[ak ι u]:=by
  rw[map_mk,hxa];simp only[zal,zdy];rw[bH.at hx hs]
 simp only[execOp,ho,resolve,hc,hargs];simp only[Sem.run_bind,Sem.run_pure,Result.andThen_ok,invoke,builtin];rw[hl];simp[ak]
theorem bq.La (hg:(af ops i).guard=none){c:Call}{t e:TypeId}{ats:List TypeId}{x:Operand}{n:Nat}(ho:(af ops i).op=.call c)(hc:c.callee=.builtin .len)(hats:c.argTypes.toList=t::ats)(hxa:c.args.toList=[x])(hu:P.underlying t=some (.slice e))(hx:bH nt T x u)(hf:(u=.ab/\n=0)∨∃b o cp,u=.cN b o n cp):bq P ops n0 nt i T hp nx G (.int .i64 (.ofNat n)):=by
 have ht:c.argTypes[0]?=some t:=by rw[<-zcn,hats];rfl
 refine D6 hg ho hc hats hxa hx fun ι w=>?_;rcases hf with ⟨rfl,rfl⟩|⟨b,o,cp,rfl⟩<;>
 ·simp only[ak,Builtin.len_,ht];simp only[zao,zbf,Sem.run_bind,ay hu,Result.andThen_ok];simp[goInt]
theorem bq.Iw (hg:(af ops i).guard=none){c:Call}{t:TypeId}{ats:List TypeId}{x:Operand}{l n:Nat}(ho:(af ops i).op=.call c)(hc:c.callee=.builtin .len)(hats:c.argTypes.toList=t::ats)(hxa:c.args.toList=[x])(hu:P.underlying t=some .string)(hx:bH nt T x (.str l n)):bq P ops n0 nt i T hp nx G (.int .i64 (.ofNat l)):=by
 have ht:c.argTypes[0]?=some t:=by rw[<-zcn,hats];rfl
 refine D6 hg ho hc hats hxa hx fun ι w=>?_;simp only[ak,Builtin.len_,ht];simp only[zao,zbf,Sem.run_bind,ay hu,Result.andThen_ok];simp[goInt,ByteArray.size,aD]
end
end Go.Rt
namespace Go.Rd
open Go.aI Go.RowKit Go.Rt
inductive R where|ok|bad (n:Nat) (s:SS)|both (a b:Unit->R)
def R.and (a b:R):R:=.both (fun _=>a) (fun _=>b)
def R.Ok:R->Prop
 |.ok=>True
 |.bad _ _=>False
 |.both a b=>(a ()).Ok/\(b ()).Ok
theorem R.gp {a b:R}(h:(a.and b).Ok):a.Ok/\b.Ok:=h
def R.okB:R->Bool
 |.ok=>true
 |.bad _ _=>false
 |.both a b=>bif (a ()).okB then (b ()).okB else false
theorem R.di:∀{r:R},r.okB=true->r.Ok
 |.ok,_=>trivial
 |.bad _ _,h=>by cases h
 |.both a b,h=>by
  have h:(bif (a ()).okB then (b ()).okB else false)=true:=h;cases ha:(a ()).okB with
  |false=>rw[ha]at h;cases h
  |true=>rw[ha]at h;exact⟨di ha,di h⟩
structure Cf where
 P:Program
 Φ:Forms
 nt:Nat
 keys:List (TypeId×KK)
structure Ok (c:Cx) (T:Tm) (G:GH) (Γ:dy) (ρ:aZ) (s:SS):Prop where
 sat:Sat ρ s
 q:Q c T G Γ (s.den ρ)
def fI (c:Cx)(T:Tm)(G:GH)(Γ:dy)(s:SS)(ρ:aZ)(H:aZ->SS->Prop):Prop:=∃ρ' s',cM s.nx ρ ρ'/\s.nx<=s'.nx/\Ok c T G Γ ρ' s'/\H ρ' s'
section
variable {c:Cx}{T:Tm}{G:GH}{Γ:dy}{ρ ρ':aZ}{s s':SS}
theorem fI.here {H:aZ->SS->Prop}(h:Ok c T G Γ ρ s)(hh:H ρ s):fI c T G Γ s ρ H:=⟨ρ,s,cM.refl _ _,zad _,h,hh⟩
theorem fI.mk {H:aZ->SS->Prop}(h1:cM s.nx ρ ρ')(h2:s.nx<=s'.nx)(h:Ok c T G Γ ρ' s')(hh:H ρ' s'):fI c T G Γ s ρ H:=⟨ρ',s',h1,h2,h,hh⟩
theorem fI.bind {H H':aZ->SS->Prop}(h:fI c T G Γ s ρ H)(hh:∀ρ' s',cM s.nx ρ ρ'->s.nx<=s'.nx->Ok c T G Γ ρ' s'->H ρ' s'->fI c T G Γ s' ρ' H'):fI c T G Γ s ρ H':=by
 obtain⟨ρ1,s1,a1,n1,o1,h1⟩:=h;obtain⟨ρ2,s2,a2,n2,o2,h2⟩:=hh ρ1 s1 a1 n1 o1 h1;exact⟨ρ2,s2,a1.trans a2 n1,by omega,o2,h2⟩
theorem fI.mono {H H':aZ->SS->Prop}(h:fI c T G Γ s ρ H)(hh:∀ρ' s',cM s.nx ρ ρ'->s.nx<=s'.nx->Ok c T G Γ ρ' s'->H ρ' s'->H' ρ' s'):fI c T G Γ s ρ H':=by
 obtain⟨ρ1,s1,a1,n1,o1,h1⟩:=h;exact⟨ρ1,s1,a1,n1,o1,hh _ _ a1 n1 o1 h1⟩
def uI:List (Nat×SV)->Nat->Option SV
 | [],_=>none
 |p::l,k=>bif Nat.beq p.1 k then some p.2 else uI l k
theorem gD:∀{L:List (Nat×SV)}{k:Nat}{v:SV},uI L k=some v->lk (L.map fun p=>(p.1,p.2.den ρ)) k=some (v.den ρ)
 | [],k,v,h=>by cases h
 |p::l,k,v,h=>by
  have h:(bif Nat.beq p.1 k then some p.2 else uI l k)=some v:=h;show (bif Nat.beq p.1 k then some (p.2.den ρ)else lk (l.map fun p=>(p.1,p.2.den ρ)) k)=_;cases hb:Nat.beq p.1 k with
  |true=>rw[hb]at h;cases h;rfl
  |false=>rw[hb]at h;exact gD h
def Nf:AV->Option SC
 |.bool b=>some (.bool (.k b))
 |.int k n=>some (.int k (.k n))
 |.str l m=>some (.mF l m)
 |.float k b=>some (.x9 k b)
 |.dY=>some .dY|.ab=>some .ab|.bg=>some .bg|.cy=>some .cy
 |.func (.func f) [] []=>some (.fn f)
 |_=>none
theorem Ix {a:AV}{x:SC}(h:Nf a=some x)(ρ:aZ):x.den ρ=a:=by
 unfold Nf at h;split at h<;>first|(cases h;done)|(cases h;simp[SC.den,BE.ev,LE.bz])
def Ng:List AV->Option (List SC)
 | []=>some []
 |a::l=>match Nf a,Ng l with|some x,some xs=>some (x::xs)|_,_=>none
theorem Iy (ρ:aZ):∀{l:List AV}{xs:List SC},Ng l=some xs->aB ρ xs=l
 | [],xs,h=>by cases h;rfl
 |a::l,xs,h=>by
  unfold Ng at h;split at h
  ·rename_i x xs' h1 h2;cases h;show x.den ρ::aB ρ xs'=_;rw[Ix h1 ρ,Iy ρ h2]
  ·cases h
def sW (a:AV):Option SV:=match a with
 |.agg l=>(Ng l).map (.v true)
 |.dC []=>some .undef
 |a=>(Nf a).map fun x=>.v false [x]
theorem jc {a:AV}{v:SV}(h:sW a=some v)(ρ:aZ):v.den ρ=a:=by
 unfold sW at h;split at h
 ·rename_i l;cases hl:Ng l with
  |none=>rw[hl]at h;cases h
  |some xs =>
   rw[hl]at h;cases h;show AV.agg (aB ρ xs)=_;rw[Iy ρ hl]
 ·cases h;rfl
 ·rename_i h1 h2;cases hl:Nf a with
  |none=>rw[hl]at h;cases h
  |some x=>rw[hl]at h;cases h;exact Ix hl ρ
def GX (s:SS)(x:Operand):Option SV:=match x with
 |.tmp t=>uI s.L t
 |.const v=>(il 8 v).bind sW
 |.func f=>some (.v false [.fn f])
 |.global _=>none
theorem pq {x:Operand}{v:SV}(h:GX s x=some v)(hq:Q c T G Γ (s.den ρ)):bH c.nt T x (v.den ρ):=by
 cases x with
 |tmp t=>exact OK (hq.at_ _ _ (gD h))
 |const cv =>
  have h:(il 8 cv).bind sW=some v:=h;cases ha:il 8 cv with
  |none=>rw[ha]at h;cases h
  |some a =>
   rw[ha]at h;have h:=jc (v:=v) h ρ;rw[h];exact fun ι a' _=>(eR 8 cv a ha ι).symm
 |func f =>
  cases h;exact fun ι a' _=>by simp[SV.den,dS,aB,SC.den,ak,ao,jV,Act.eval]
 |global g=>cases h
def bo (s:SS)(e:LE):Bool:=bif pv 3 s.nx s.fs e then true else bif pv 4 s.nx s.fs e then true else bif pv 5 s.nx s.fs e then true else pv 10 s.nx s.fs e
def fW (s:SS)(e:LE):Bool:=pv 4 s.nx s.fs e
theorem yd {s:SS}{ρ:aZ}{e:LE}(hs:∀f∈s.fs,0<=f.ev ρ)(h:bo s e=true):0<=e.ev ρ:=by
 unfold bo at h;cases h1:pv 3 s.nx s.fs e with
 |true=>exact AY hs h1
 |false=>cases h2:pv 4 s.nx s.fs e with
  |true=>exact AY hs h2
  |false=>cases h3:pv 5 s.nx s.fs e with
   |true=>exact AY hs h3
   |false=>rw[h1,h2,h3]at h;exact AY hs h
theorem ax {e:LE}(h:bo s e=true)(hs:Sat ρ s):0<=e.ev ρ:=yd hs.fs h
theorem md {e:LE}(h:fW s e=true)(hs:Sat ρ s):0<=e.ev ρ:=AY hs.fs h
def Nh:List (Nat×Bool)->Nat->Option Bool
 | [],_=>none
 |p::l,k=>bif Nat.beq p.1 k then some p.2 else Nh l k
theorem ye:∀{l:List (Nat×Bool)}{k:Nat}{b:Bool},Nh l k=some b->(k,b)∈l
 | [],k,b,h=>by cases h
 |p::l,k,b,h=>by
  have h:(bif Nat.beq p.1 k then some p.2 else Nh l k)=some b:=h;cases hb:Nat.beq p.1 k with
  |true=>rw[hb]at h;cases h;have:=zab hb;subst this;exact zac ..
  |false=>rw[hb]at h;exact zaa _ (ye h)
def Ni (s:SS)(e:LE):Bool:=s.ne.any fun x=>x.same e||x.same ((LE.k 0).sub e)
theorem Iz {e:LE}(h:Ni s e=true)(hs:Sat ρ s):e.ev ρ≠0:=by
 obtain⟨x,h1,h2⟩:=List.any_eq_true.1 h;have:=hs.ne x h1;rw[zar]at h2;rcases h2 with h2|h2
 ·rw[<-LE.aN h2 ρ];exact this
 ·rw[LE.aN h2 ρ,LE.aw,LE.bz]at this;omega
def F8 (s:SS)(e:LE):SS:=⟨s.nx,s.L,s.os,s.ty,s.gs,s.fs,s.bs,s.pw,s.ats,s.cU,e::s.ne,s.fz,s.sb⟩
theorem Ok.F8 {e:LE}(h:Ok c T G Γ ρ s)(he:e.ev ρ≠0):Ok c T G Γ ρ (F8 s e):=⟨⟨h.sat.fs,h.sat.bs,h.sat.pw,h.sat.ats,h.sat.cU,fun f hf=>by
 rcases List.mem_cons.1 hf with rfl|hf
 ·exact he
 ·exact h.sat.ne f hf,h.sat.fz,h.sat.sb⟩,h.q⟩
def kb (s:SS):BE->Option Bool
 |.k b=>some b
 |.v x=>Nh s.bs x
 |.nv x=>(Nh s.bs x).map (!·)
 |.ge e=>bif fW s e then some true else bif fW s ((LE.k (-1)).sub e)then some false else none
 |.eq e=>bif fW s e&&fW s ((LE.k 0).sub e)then some true else bif Ni s e||(fW s (e.bk (-1))||fW s ((LE.k (-1)).sub e))then some false else none
 |.ne e=>bif fW s e&&fW s ((LE.k 0).sub e)then some false else bif Ni s e||(fW s (e.bk (-1))||fW s ((LE.k (-1)).sub e))then some true else none
theorem Nj {e:LE}{r:Bool}(h:(bif fW s e&&fW s ((LE.k 0).sub e)then some true else bif Ni s e||(fW s (e.bk (-1))||fW s ((LE.k (-1)).sub e))then some false else none)=some r)(hs:Sat ρ s):decide (e.ev ρ=0)=r:=by
 cases h1:(fW s e&&fW s ((LE.k 0).sub e))with
 |true =>
  rw[h1]at h;cases h;rw[za]at h1;have a:=md h1.1 hs;have b:=md h1.2 hs;rw[LE.aw,LE.bz]at b;exact decide_eq_true (by omega)
 |false =>
  rw[h1]at h;cases h2:(Ni s e||(fW s (e.bk (-1))||fW s ((LE.k (-1)).sub e)))with
  |true =>
   rw[h2]at h;cases h;rw[zar,zar]at h2;rcases h2 with h2|h2|h2
   ·exact decide_eq_false (Iz h2 hs)
   ·have b:=md h2 hs;rw[LE.aO]at b;exact decide_eq_false (by omega)
   ·have b:=md h2 hs;rw[LE.aw,LE.bz]at b;exact decide_eq_false (by omega)
  |false=>rw[h2]at h;cases h
theorem Nk {b:BE}{r:Bool}(h:kb s b=some r)(hs:Sat ρ s):b.ev ρ=r:=by
 cases b with
 |k b=>cases h;rfl
 |v x=>exact hs.bs _ (ye h)
 |nv x =>
  have h:(Nh s.bs x).map (!·)=some r:=h;cases hl:Nh s.bs x with
  |none=>rw[hl]at h;cases h
  |some q=>rw[hl]at h;cases h;show (!(ρ x).bb)=_;rw[hs.bs _ (ye hl)]
 |ge e =>
  have h:(bif fW s e then some true else bif fW s ((LE.k (-1)).sub e)then some false else none)=some r:=h;cases h1:fW s e with
  |true=>rw[h1]at h;cases h;exact decide_eq_true (md h1 hs)
  |false =>
   rw[h1]at h;cases h2:fW s ((LE.k (-1)).sub e)with
   |true=>rw[h2]at h;cases h;have:=md h2 hs;rw[LE.aw,LE.bz]at this;exact decide_eq_false (by omega)
   |false=>rw[h2]at h;cases h
 |eq e=>exact Nj h hs
 |ne e =>
  have h:(bif fW s e&&fW s ((LE.k 0).sub e)then some false else bif Ni s e||(fW s (e.bk (-1))||fW s ((LE.k (-1)).sub e))then some true else none)=some r:=h
  have:=Nj (s:=s) (e:=e) (r:=!r) (ρ:=ρ) (by
   cases h1:(fW s e&&fW s ((LE.k 0).sub e))with
   |true=>rw[h1]at h;cases h;rfl
   |false =>
    rw[h1]at h;cases h2:(Ni s e||(fW s (e.bk (-1))||fW s ((LE.k (-1)).sub e)))with
    |true=>rw[h2]at h;cases h;rfl
    |false=>rw[h2]at h;cases h) hs
  show (!decide (e.ev ρ=0))=r;rw[this,Bool.not_not]
def aP (s:SS)(e:LE):SS:=⟨s.nx,s.L,s.os,s.ty,s.gs,e::s.fs,s.bs,s.pw,s.ats,s.cU,s.ne,s.fz,s.sb⟩
theorem Ok.aP {e:LE}(h:Ok c T G Γ ρ s)(he:0<=e.ev ρ):Ok c T G Γ ρ (aP s e):=⟨⟨fun f hf=>by
 rcases List.mem_cons.1 hf with rfl|hf
 ·exact he
 ·exact h.sat.fs f hf,h.sat.bs,h.sat.pw,h.sat.ats,h.sat.cU,h.sat.ne,h.sat.fz,h.sat.sb⟩,h.q⟩
def F9 (s:SS)(x:Nat)(b:Bool):SS:=⟨s.nx,s.L,s.os,s.ty,s.gs,s.fs,(x,b)::s.bs,s.pw,s.ats,s.cU,s.ne,s.fz,s.sb⟩
theorem Ok.F9 {x:Nat}{b:Bool}(h:Ok c T G Γ ρ s)(he:(ρ x).bb=b):Ok c T G Γ ρ (F9 s x b):=⟨⟨h.sat.fs,fun p hp=>by
 rcases List.mem_cons.1 hp with rfl|hp
 ·exact he
 ·exact h.sat.bs p hp,h.sat.pw,h.sat.ats,h.sat.cU,h.sat.ne,h.sat.fz,h.sat.sb⟩,h.q⟩
def oE (s:SS)(e:LE):SS:=bif fW s e then aP (F8 s e) (e.bk (-1))else F8 s e
theorem Ok.oE {e:LE}(h:Ok c T G Γ ρ s)(he:e.ev ρ≠0):Ok c T G Γ ρ (oE s e):=by
 unfold Rd.oE;cases hb:fW s e with
 |false=>exact h.F8 he
 |true =>
  have:=md hb h.sat;exact (h.F8 he).aP (by rw[LE.aO];omega)
theorem IA (s:SS)(e:LE):(oE s e).nx=s.nx/\∀ρ,(oE s e).den ρ=s.den ρ:=by
 unfold Rd.oE;cases fW s e<;>exact⟨rfl,fun _=>rfl⟩
def Nl (s:SS)(b:BE)(r:Bool):SS:=match b,r with
 |.v x,r=>F9 s x r
 |.nv x,r=>F9 s x (!r)
 |.ge e,true=>aP s e
 |.ge e,false=>aP s ((LE.k (-1)).sub e)
 |.eq e,true=>aP (aP s e) ((LE.k 0).sub e)
 |.ne e,false=>aP (aP s e) ((LE.k 0).sub e)
 |.eq e,false=>oE s e
 |.ne e,true=>oE s e
 |_,_=>s
theorem Ok.Nl {b:BE}{r:Bool}(h:Ok c T G Γ ρ s)(he:b.ev ρ=r):Ok c T G Γ ρ (Nl s b r):=by
 have Oi:∀e:LE,e.ev ρ=0->Ok c T G Γ ρ (Rd.aP (Rd.aP s e) ((LE.k 0).sub e)):=fun e h0=>(h.aP (by omega)).aP (by rw[LE.aw,LE.bz];omega);cases b with
 |k b=>cases r<;>exact h
 |v x=>exact h.F9 he
 |nv x=>exact h.F9 (by rw[<-he];simp[BE.ev])
 |ge e=>cases r with
  |true=>exact h.aP (of_decide_eq_true he)
  |false=>exact h.aP (by have:=of_decide_eq_false he;rw[LE.aw,LE.bz];omega)
 |eq e=>cases r with
  |true=>exact Oi e (of_decide_eq_true he)
  |false=>exact h.oE (of_decide_eq_false he)
 |ne e=>cases r with
  |true=>exact h.oE (by have he:(!decide (e.ev ρ=0))=true:=he;simpa using he)
  |false =>
   have he:(!decide (e.ev ρ=0))=false:=he;exact Oi e (by simpa using he)
theorem yf (s:SS)(b:BE)(r:Bool):(Nl s b r).nx=s.nx/\∀ρ,(Nl s b r).den ρ=s.den ρ:=by
 cases b<;>cases r<;>first|exact⟨rfl,fun _=>rfl⟩|exact IA _ _
def split (s:SS)(b:BE)(Kt Kf:SS->R):R:=match kb s b with
 |some true=>Kt s
 |some false=>Kf s
 |none=>(Kt (Nl s b true)).and (Kf (Nl s b false))
theorem nJ {b:BE}{Kt Kf:SS->R}(h:(split s b Kt Kf).Ok)(hk:Ok c T G Γ ρ s):∃s',s'.nx=s.nx/\(∀ρ,s'.den ρ=s.den ρ)/\Ok c T G Γ ρ s'/\((b.ev ρ=true/\(Kt s').Ok)∨(b.ev ρ=false/\(Kf s').Ok)):=by
 unfold split at h;cases hb:kb s b with
 |some r =>
  have he:=Nk hb hk.sat;rw[hb]at h;cases r with
  |true=>exact⟨s,rfl,fun _=>rfl,hk,.inl ⟨he,h⟩⟩
  |false=>exact⟨s,rfl,fun _=>rfl,hk,.inr ⟨he,h⟩⟩
 |none =>
  rw[hb]at h;obtain⟨h1,h2⟩:=R.gp h;cases he:b.ev ρ with
  |true=>exact⟨_,(yf s b true).1,(yf s b true).2,hk.Nl he,.inl ⟨rfl,h1⟩⟩
  |false=>exact⟨_,(yf s b false).1,(yf s b false).2,hk.Nl he,.inr ⟨rfl,h2⟩⟩
def aC (s:SS):SS:=⟨s.nx+1,s.L,s.os,s.ty,s.gs,s.fs,s.bs,s.pw,s.ats,s.cU,s.ne,s.fz,s.sb⟩
def fresh (s:SS)(K:Nat->SS->R):R:=bif s.ok then K s.nx (aC s)else .bad 1 s
theorem aA {K:Nat->SS->R}(h:(fresh s K).Ok)(hk:Ok c T G Γ ρ s)(u:U):(K s.nx (aC s)).Ok/\cM s.nx ρ (ρ.up s.nx u)/\Ok c T G Γ (ρ.up s.nx u) (aC s)/\(ρ.up s.nx u) s.nx=u:=by
 unfold fresh at h;cases hs:s.ok with
 |false=>rw[hs]at h;cases h
 |true =>
  rw[hs]at h;have ha:=Im ρ s.nx u;obtain⟨e1,e2⟩:=SS.bG hs ha;have:=e2 hk.sat
  exact⟨h,ha,⟨⟨this.fs,this.bs,this.pw,this.ats,this.cU,this.ne,this.fz,this.sb⟩,by
   have hq:=hk.q;rw[<-e1]at hq
   exact hq⟩,dz _ _ _⟩
def aY (s:SS)(f:c6):SS:=⟨s.nx,s.L,s.os,f::s.ty,s.gs,s.fs,s.bs,s.pw,s.ats,s.cU,s.ne,s.fz,s.sb⟩
theorem Ok.aY {f:c6}(h:Ok c T G Γ ρ s)(hf:fF c.P c.Φ G Γ (f.den ρ)):Ok c T G Γ ρ (aY s f):=⟨⟨h.sat.fs,h.sat.bs,h.sat.pw,h.sat.ats,h.sat.cU,h.sat.ne,h.sat.fz,h.sat.sb⟩,by
 have q:=h.q;refine⟨q.ml,q.at_,q.uB,q.rl,q.grow,q.own,q.new,q.nd,q.ht,fun x hx=>?_,q.gs⟩;rcases List.mem_cons.1 hx with rfl|hx
 ·exact hf
 ·exact q.ty x hx⟩
def qF (s:SS)(p:Nat×LE×LE):SS:=⟨s.nx,s.L,s.os,s.ty,s.gs,s.fs,s.bs,p::s.pw,s.ats,s.cU,s.ne,s.fz,s.sb⟩
theorem Ok.qF {p:Nat×LE×LE}(h:Ok c T G Γ ρ s)(hp:0<=p.2.1.ev ρ/\((((ρ p.1).ns.take (p.2.1.ev ρ).toNat).sum:Nat):Int)+p.2.1.ev ρ=p.2.2.ev ρ):Ok c T G Γ ρ (qF s p):=⟨⟨h.sat.fs,h.sat.bs,fun q hq=>by
 rcases List.mem_cons.1 hq with rfl|hq
 ·exact hp
 ·exact h.sat.pw q hq,h.sat.ats,h.sat.cU,h.sat.ne,h.sat.fz,h.sat.sb⟩,h.q⟩
def gk (s:SS)(p:Nat×SC×LE):SS:=⟨s.nx,s.L,s.os,s.ty,s.gs,s.fs,s.bs,s.pw,p::s.ats,s.cU,s.ne,s.fz,s.sb⟩
theorem Ok.gk {p:Nat×SC×LE}(h:Ok c T G Γ ρ s)(hp:Kc ρ p):Ok c T G Γ ρ (gk s p):=⟨⟨h.sat.fs,h.sat.bs,h.sat.pw,fun q hq=>by
 rcases List.mem_cons.1 hq with rfl|hq
 ·exact hp
 ·exact h.sat.ats q hq,h.sat.cU,h.sat.ne,h.sat.fz,h.sat.sb⟩,h.q⟩
def wF (s:SS)(p:Nat×LE×LE):SS:=⟨s.nx,s.L,s.os,s.ty,s.gs,s.fs,s.bs,s.pw,s.ats,p::s.cU,s.ne,s.fz,s.sb⟩
theorem Ok.wF {p:Nat×LE×LE}(h:Ok c T G Γ ρ s)(hp:0<=p.2.1.ev ρ/\(ρ p.1).gg.fz=true/\(((ρ p.1).gg.fl (p.2.1.ev ρ).toNat:Nat):Int)=p.2.2.ev ρ):Ok c T G Γ ρ (wF s p):=⟨⟨h.sat.fs,h.sat.bs,h.sat.pw,h.sat.ats,fun q hq=>by
 rcases List.mem_cons.1 hq with rfl|hq
 ·exact hp
 ·exact h.sat.cU q hq,h.sat.ne,h.sat.fz,h.sat.sb⟩,h.q⟩
def Lb (s:SS)(p:Nat×Nat×Bool):SS:=⟨s.nx,s.L,s.os,s.ty,p::s.gs,s.fs,s.bs,s.pw,s.ats,s.cU,s.ne,s.fz,s.sb⟩
theorem Ok.Lb {p:Nat×Nat×Bool}(h:Ok c T G Γ ρ s)(hp:ig ρ p.1<Γ.ng/\Γ.gd (ig ρ p.1)=(ρ p.2.1).gg/\(p.2.2=true->(ig ρ p.1∈c.Sg∨c.Γ0.ng<=ig ρ p.1)/\(ρ p.2.1).gg.fz=false/\0<ig ρ p.1)):Ok c T G Γ ρ (Lb s p):=⟨⟨h.sat.fs,h.sat.bs,h.sat.pw,h.sat.ats,h.sat.cU,h.sat.ne,h.sat.fz,h.sat.sb⟩,by
 have q:=h.q;refine⟨q.ml,q.at_,q.uB,q.rl,q.grow,q.own,q.new,q.nd,q.ht,q.ty,fun x hx=>?_⟩;rcases List.mem_cons.1 hx with rfl|hx
 ·exact hp
 ·exact q.gs x hx⟩
def ghost:List (Nat×Nat×Bool)->Nat->Option Nat
 | [],_=>none
 |p::l,g=>bif Nat.beq p.1 g then some p.2.1 else ghost l g
theorem ry:∀{l:List (Nat×Nat×Bool)}{g d:Nat},ghost l g=some d->∃w,(g,d,w)∈l
 | [],g,d,h=>by cases h
 |p::l,g,d,h=>by
  have h:(bif Nat.beq p.1 g then some p.2.1 else ghost l g)=some d:=h;cases hb:Nat.beq p.1 g with
  |true=>rw[hb]at h;cases h;have:=zab hb;subst this;exact⟨p.2.2,zac ..⟩
  |false=>rw[hb]at h;obtain⟨w,hw⟩:=ry h;exact⟨w,zaa _ hw⟩
theorem cR {g d:Nat}(h:ghost s.gs g=some d)(hk:Ok c T G Γ ρ s):Γ.gd (ig ρ g)=(ρ d).gg:=by
 obtain⟨w,hw⟩:=ry h;exact (hk.q.gs (ig ρ g,(ρ d).gg,w) (List.mem_map.2 ⟨(g,d,w),hw,rfl⟩)).2.1
theorem tj {f:TF}(h:fF c.P c.Φ G Γ f):cr f.v=true:=by
 cases f with
 |sl v cc g ns=>rcases h.form with ⟨h,_⟩|⟨b,o,cp,h⟩<;>(show cr v=true;rw[h];rfl)
 |pt v cc g=>obtain⟨b,L,h,_⟩:=h;show cr v=true;rw[h];rfl
 |mp v cc g=>obtain⟨b,h,_⟩:=h;show cr v=true;rw[h];rfl
 |el v c j off x=>obtain⟨b,o,l,cap,el,size,C,h,_⟩:=h;show cr v=true;rw[h];rfl
 |wn q=>rfl
 |sj _ _ _=>rfl
def wG (Φ:Forms)(g cc:Nat):Nat:=bif Φ.dep cc then g else 0
theorem rz {Φ:Forms}{d:Gd}{g cc:Nat}(hv:Φ.via cc=false):gi Φ d (ig ρ g) cc=ig ρ (wG Φ g cc):=by
 unfold gi wG;rw[hv];cases Φ.dep cc<;>rfl
def yg:List (Nat×LE×LE)->Nat->LE->Option LE
 | [],_,_=>none
 |p::l,d,j=>bif Nat.beq p.1 d&&p.2.1.same j then some p.2.2 else yg l d j
theorem qG:∀{l:List (Nat×LE×LE)}{d:Nat}{j e:LE},yg l d j=some e->∃j',(d,j',e)∈l/\∀ρ,j'.ev ρ=j.ev ρ
 | [],d,j,e,h=>by cases h
 |p::l,d,j,e,h=>by
  have h:(bif Nat.beq p.1 d&&p.2.1.same j then some p.2.2 else yg l d j)=some e:=h;cases hb:(Nat.beq p.1 d&&p.2.1.same j)with
  |true =>
   rw[hb]at h;cases h;rw[za]at hb;have:=zab hb.1;subst this;exact⟨p.2.1,zac ..,LE.aN hb.2⟩
  |false=>rw[hb]at h;obtain⟨j',h1,h2⟩:=qG h;exact⟨j',zaa _ h1,h2⟩
def IB (s:SS)(d:Nat)(e:LE):List (Nat×SC×LE)->Option LE
 | []=>none
 |p::l=>(match p.2.1 with
  |.int _ e'=>bif Nat.beq p.1 d&&(e'.same e||(bo s (e'.sub e)&&bo s (e.sub e')))then some p.2.2 else IB s d e l
  |_=>IB s d e l)
theorem yj {d:Nat}{e q:LE}(hs:Sat ρ s):∀{l:List (Nat×SC×LE)},IB s d e l=some q->∃k e',(d,SC.int k e',q)∈l/\e'.ev ρ=e.ev ρ
 | [],h=>by cases h
 |p::l,h=>by
  unfold IB at h
  have go:IB s d e l=some q->∃k e',(d,SC.int k e',q)∈p::l/\e'.ev ρ=e.ev ρ:=fun h=>by
   obtain⟨k,e',h1,h2⟩:=yj hs h;exact⟨k,e',zaa _ h1,h2⟩
  split at h
  ·rename_i k e' hp;cases hb:(Nat.beq p.1 d&&(e'.same e||(bo s (e'.sub e)&&bo s (e.sub e'))))with
   |false=>rw[hb]at h;exact go h
   |true =>
    rw[hb]at h;cases h;rw[za,zar,za]at hb;obtain⟨h1,h2⟩:=hb;have h1:=ai h1;refine⟨k,e',?_,?_⟩
    ·rw[<-h1,<-hp];exact zac ..
    ·rcases h2 with h2|⟨h2,h3⟩
     ·exact LE.aN h2 ρ
     ·have a1:=ax h2 hs;have a2:=ax h3 hs;rw[LE.aw]at a1 a2;omega
  ·exact go h
def Nm:LE->Option Nat
 |⟨.ofNat 0,[(.ofNat 1,.wt y)]⟩=>some y
 |_=>none
theorem CI {q:LE}{y:Nat}(h:Nm q=some y)(ρ:aZ):q.ev ρ=(((ρ y).ns.sum+(ρ y).ns.length:Nat):Int):=by
 unfold Nm at h;split at h
 ·cases h;show (0:Int)+((1:Int)*_+0)=_;rw[Int.one_mul,Int.zero_add,Int.add_zero];rfl
 ·cases h
def wL (q:Nat):List Nat:=match q with|0=>[]|q+1=>[q]
theorem IC (q:Nat):(wL q).sum+(wL q).length=q/\(wL q).length<=jB:=by
 cases q with
 |zero=>exact⟨rfl,zbl _⟩
 |succ q=>exact⟨by simp[wL],by show 1<=jB;decide⟩
def pr (s:SS)(g:Nat):Bool:=Nat.beq g 0||(ghost s.gs g).isSome
theorem gJ {g:Nat}(h:pr s g=true)(hk:Ok c T G Γ ρ s):ig ρ g<Γ.ng:=by
 unfold pr at h;rw[zar]at h;rcases h with h|h
 ·have:=ai h;subst this;exact hk.q.ht.z.2
 ·obtain⟨d,hd⟩:=Option.isSome_iff_exists.1 h;obtain⟨w,hw⟩:=ry hd;exact (hk.q.gs (ig ρ g,(ρ d).gg,w) (List.mem_map.2 ⟨(g,d,w),hw,rfl⟩)).1
def Nn:List c6->Nat->LE->Option SC
 | [],_,_=>none
 |.sj g' e' v::l,g,e=>bif Nat.beq g' g&&e'.same e then some v else Nn l g e
 |_::l,g,e=>Nn l g e
theorem me:∀{l:List c6}{g:Nat}{e:LE}{v:SC},Nn l g e=some v->∃e',c6.sj g e' v∈l/\∀ρ,e'.ev ρ=e.ev ρ
 | [],_,_,_,h=>by cases h
 |.sj g' e' w::l,g,e,v,h=>by
  have h:(bif Nat.beq g' g&&e'.same e then some w else Nn l g e)=some v:=h;cases hb:(Nat.beq g' g&&e'.same e)with
  |true =>
   rw[hb]at h;cases h;rw[za]at hb;have:=ai hb.1;subst this;exact⟨e',zac ..,fun ρ=>LE.aN hb.2 ρ⟩
  |false=>rw[hb]at h;obtain⟨e2,h1,h2⟩:=me h;exact⟨e2,zaa _ h1,h2⟩
 |.sl _ _ _::l,g,e,v,h=>by obtain⟨e2,h1,h2⟩:=me (l:=l) h;exact⟨e2,zaa _ h1,h2⟩
 |.pt _ _ _::l,g,e,v,h=>by obtain⟨e2,h1,h2⟩:=me (l:=l) h;exact⟨e2,zaa _ h1,h2⟩
 |.mp _ _ _::l,g,e,v,h=>by obtain⟨e2,h1,h2⟩:=me (l:=l) h;exact⟨e2,zaa _ h1,h2⟩
 |.el _ _ _ _ _::l,g,e,v,h=>by obtain⟨e2,h1,h2⟩:=me (l:=l) h;exact⟨e2,zaa _ h1,h2⟩
def CJ (s:SS)(g:Nat)(e:LE):List c6->Option SC
 | []=>none
 |f::l=>(match f with
  |.sj g' e' v=>bif Nat.beq g' g&&(e'.same e||(bo s (e'.sub e)&&bo s (e.sub e')))then some v else CJ s g e l
  |_=>CJ s g e l)
theorem A1 {g:Nat}{e:LE}{v:SC}(hs:Sat ρ s):∀{l:List c6},CJ s g e l=some v->∃e',c6.sj g e' v∈l/\e'.ev ρ=e.ev ρ
 | [],h=>by cases h
 |f::l,h=>by
  have go:CJ s g e l=some v->∃e',c6.sj g e' v∈f::l/\e'.ev ρ=e.ev ρ:=fun h=>by
   obtain⟨e2,h1,h2⟩:=A1 hs h;exact⟨e2,zaa _ h1,h2⟩
  unfold CJ at h;split at h
  ·rename_i g' e' w;cases hb:(Nat.beq g' g&&(e'.same e||(bo s (e'.sub e)&&bo s (e.sub e'))))with
   |false=>rw[hb]at h;exact go h
   |true =>
    rw[hb]at h;cases h;simp only[za,zar]at hb;have:=ai hb.1;subst this;refine⟨e',zac ..,?_⟩;rcases hb.2 with h1|⟨h1,h2⟩
    ·exact LE.aN h1 ρ
    ·have a1:=ax h1 hs;have a2:=ax h2 hs;rw[LE.aw]at a1 a2;omega
  ·exact go h
def Lc (cf:Cf)(g cc:Nat)(s:SS)(K:Nat->SS->R):R:=bif cf.Φ.via cc then .bad 2 s else fresh s fun x s=>K x (aY s (.sl x cc (wG cf.Φ g cc)))
def plain (Φ:Forms)(cc x:Nat):Option Nat:=bif Φ.fr cc then none else some x
def qP (cf:Cf)(g:Nat)(d:Option Nat)(j:LE)(k:K2)(s:SS)(K:SC->Option Nat->SS->R):R:=match k with
 |.int kd=>fresh s fun x s=>K (.int kd (.a (.z x))) none s
 |.nat b=>fresh s fun x s=>K (.int .i64 (.a (.n x))) none (match d with|some d=>aP s (((LE.a (.gn d b)).sub (.a (.n x))).bk (-1))|none=>s)
 |.pos b=>fresh s fun x s=>K (.int .i64 (.a (.n x))) none (match d with|some d=>aP (aP s ((LE.a (.n x)).bk (-1))) ((LE.a (.gn d b)).sub (.a (.n x)))|none=>aP s ((LE.a (.n x)).bk (-1)))
 |.str=>fresh s fun x s=>K (.str x) none s
 |.rp=>fresh s fun x s=>K (.str x) none (match d with|some d=>gk s (d,.str x,j)|none=>s)
 |.sU=>(match Nn s.ty g j with
  |some x=>bif x.lt s.nx then K x none s else .bad 4 s
  |none=>bif pr s g then fresh s fun x s=>K (.str x) none (aY s (.sj g j (.str x)))else fresh s fun x s=>K (.str x) none s)
 |.vx b=>fresh s fun x s=>K (.str x) none (aP s ((LE.k b).sub (.a (.sl x))))
 |.bool=>fresh s fun x s=>K (.bool (.v x)) none s
 |.oz kd=>fresh s fun x s=>K (.oz kd x) none s
 |.sl cc=>Lc cf g cc s fun x s=>K (.ref x) (plain cf.Φ cc x) s
 |.BD cc b=>Lc cf g cc s fun x s=>K (.ref x) (plain cf.Φ cc x) (aP s ((LE.k b).sub (.a (.len x))))
 |.x5 cc b=>Lc cf g cc s fun x s=>K (.ref x) (plain cf.Φ cc x) (match d with|some d=>aP s ((LE.a (.gn d b)).sub (.a (.len x)))|none=>s)
 |.yY cc b=>Lc cf g cc s fun x s=>K (.ref x) (plain cf.Φ cc x) (match d with|some d=>aP (aP s ((LE.a (.gn d b)).sub (.a (.len x)))) ((LE.a (.len x)).sub (.a (.gn d b)))|none=>s)
 |.AR cc=>Lc cf g cc s fun x s=>K (.ref x) (plain cf.Φ cc x) (match d with|some d=>(match yg s.cU d j with|some e=>aP (aP s (e.sub (.a (.len x)))) ((LE.a (.len x)).sub e)|none=>wF s (d,j,.a (.len x)))|none=>s)
 |.rq b=>fresh s fun x s=>fresh s fun y s=>K (.int .i64 (.a (.n x))) (some y) (match d with|some d=>gk (aP s (((LE.a (.gn d b)).sub (.a (.n x))).bk (-1))) (d,.int .i64 (.a (.n x)),.a (.wt y))|none=>s)
 |.DU cc w=>Lc cf g cc s fun x s=>(match d with
  |some d=>(match IB s d j s.ats with
   |some q=>K (.ref x) (plain cf.Φ cc x) (bif (Nm q).isSome then aP (aP s ((LE.k w).sub (.a (.wt x)))) (q.sub (.a (.wt x)))else aP s ((LE.k w).sub (.a (.wt x))))
   |none=>fresh s fun y s=>K (.ref x) (plain cf.Φ cc x) (gk (aP (aP s ((LE.k w).sub (.a (.wt x)))) ((LE.a (.wt y)).sub (.a (.wt x)))) (d,.int .i64 j,.a (.wt y))))
  |none=>K (.ref x) (plain cf.Φ cc x) (aP s ((LE.k w).sub (.a (.wt x)))))
 |.Ct cc w=>Lc cf g cc s fun x s=>K (.ref x) (plain cf.Φ cc x) (aP s ((LE.k w).sub (.a (.wt x))))
 |.ptr cc=>Tw cf g cc s K
 |.DV cc=>(K .dY none s).and (Tw cf g cc s K)
 |.mp cc=>Tx cf g cc s K
 |.DW cc=>(K .bg none s).and (Tx cf g cc s K)
 |.bad=>.bad 3 s
 where
 Tw (cf:Cf) (g cc:Nat) (s:SS) (K:SC->Option Nat->SS->R):R:=bif cf.Φ.via cc
  then fresh s fun y s=>fresh (s) fun dv s=>fresh s fun x s=>K (.ref x) none (Lb (aY s (.pt x cc (y+1))) (y+1,dv,false))
  else fresh s fun x s=>K (.ref x) none (aY s (.pt x cc (wG cf.Φ g cc)))
 Tx (cf:Cf) (g cc:Nat) (s:SS) (K:SC->Option Nat->SS->R):R:=bif cf.Φ.via cc then .bad 2 s else fresh s fun x s=>K (.ref x) none (aY s (.mp x cc (wG cf.Φ g cc)))
end
end Go.Rd
namespace Go.Rd
open Go.aI Go.RowKit Go.Rt
def Gb (ρ:aZ):Option Nat->Nat|some y=>(ρ y).ns.sum+(ρ y).ns.length|none=>0
def Ke (n:Nat):Option Nat->Bool|some y=>Nat.blt y n|none=>true
section
variable {c:Cx}{T:Tm}{G:GH}{Γ:dy}{ρ ρ':aZ}{s s':SS}{cf:Cf}
theorem eU {x n:Nat}(h:x<n):Nat.blt x n=true:=zbv h
theorem dH (n:Nat):Nat.blt n (n+1)=true:=eU (zdc n)
theorem OW {cc:Nat}{v:AV}{g:Nat}(h:fF c.P c.Φ G Γ (.pt v cc g))(ht:HT c.P c.Φ G Γ):g<Γ.ng:=by
 obtain⟨b,L,h1,h2,h3⟩:=h;exact (ht.b _ _ h2).1.1
theorem px {g cc:Nat}{K:Nat->SS->R}{v:AV}{ns:List Nat}{d:Gd}(h:(Lc cf g cc s K).Ok)(hΦ:cf.Φ=c.Φ)(hk:Ok c T G Γ ρ s)(hg:bJ s.nx g=true)(ht:fF c.P c.Φ G Γ (.sl v cc (gi c.Φ d (ig ρ g) cc) ns)) :
  ∃ρ' s',(K s.nx s').Ok/\cM s.nx ρ ρ'/\s'.nx=s.nx+1/\Ok c T G Γ ρ' s'/\(ρ' s.nx).vv=v/\(ρ' s.nx).ns=ns/\s'.cU=s.cU:=by
 unfold Lc at h;rw[hΦ]at h;cases hv:c.Φ.via cc with
 |true=>rw[hv]at h;cases h
 |false =>
  rw[hv]at h;simp only[qP,cond_true,cond_false]at h;obtain⟨h1,h2,h3,h4⟩:=aA h hk (.v v ns);have hr:cr v=true:=tj ht;have e1:(ρ.up s.nx (.v v ns) s.nx).vv=v:=by rw[h4];exact U.jl hr
  have e2:(ρ.up s.nx (.v v ns) s.nx).ns=ns:=by rw[h4];exact U.iw ht.1
  refine⟨_,_,h1,h2,rfl,h3.aY ?_,e1,e2,rfl⟩;show fF c.P c.Φ G Γ (.sl _ cc (ig _ (wG c.Φ g cc)) _)
  have:ig (ρ.up s.nx (.v v ns)) (wG c.Φ g cc)=gi c.Φ d (ig ρ g) cc:=by
   rw[rz hv];unfold wG;cases c.Φ.dep cc with
   |true=>exact ba h2 hg
   |false=>rfl
  rw[e1,e2,this];exact ht
def Ty (c:Cx)(T:Tm)(G:GH)(Γ:dy)(s:SS)(ρ:aZ)(v:AV)(w:Nat)(K:SC->Option Nat->SS->R):Prop :=
 fI c T G Γ s ρ fun ρ' s'=>∃x o,(K x o s').Ok/\x.den ρ'=v/\x.lt s'.nx=true/\Gb ρ' o=w/\Ke s'.nx o=true
theorem eC {Φ:Forms}{cc x:Nat}{v:AV}{g:Nat}{ns:List Nat}(e:(ρ x).ns=ns):Gb ρ (plain Φ cc x)=iO Φ [.sl v cc g ns]:=by
 unfold plain;simp only[iO,sw,zal,zdy,zd,List.sum_nil];cases Φ.fr cc with
 |true=>rfl
 |false=>simp[Gb,e]
theorem eV {Φ:Forms}{cc x n:Nat}(h:x<n):Ke n (plain Φ cc x)=true:=by
 unfold plain;cases Φ.fr cc with
 |true=>rfl
 |false=>exact eU h
theorem ID {g cc:Nat}{K:SC->Option Nat->SS->R}{v:AV}{d:Gd}(h:(qP.Tw cf g cc s K).Ok)(hΦ:cf.Φ=c.Φ)(hk:Ok c T G Γ ρ s)(hg:bJ s.nx g=true)(ht:fF c.P c.Φ G Γ (.pt v cc (gi c.Φ d (ig ρ g) cc))):Ty c T G Γ s ρ v 0 K:=by
 unfold qP.Tw at h;rw[hΦ]at h;have hr:cr v=true:=tj ht;cases hv:c.Φ.via cc with
 |false =>
  rw[hv]at h;simp only[qP,cond_true,cond_false]at h;obtain⟨h1,h2,h3,h4⟩:=aA h hk (.v v []);have e1:(ρ.up s.nx (.v v []) s.nx).vv=v:=by rw[h4];exact U.jl hr
  refine fI.mk h2 (by show s.nx<=s.nx+1;omega) (h3.aY ?_) ⟨_,_,h1,e1,dH _,rfl,rfl⟩;show fF c.P c.Φ G Γ (.pt _ cc (ig _ (wG c.Φ g cc)))
  have:ig (ρ.up s.nx (.v v [])) (wG c.Φ g cc)=gi c.Φ d (ig ρ g) cc:=by
   rw[rz hv];unfold wG;cases c.Φ.dep cc with
   |true=>exact ba h2 hg
   |false=>rfl
  rw[e1,this];exact ht
 |true =>
  rw[hv]at h;have egi:gi c.Φ d (ig ρ g) cc=d.sub:=by unfold gi;rw[hv];rfl
  rw[egi]at ht;simp only[cond_true,cond_false]at h;obtain⟨h1,a1,o1,e1⟩:=aA h hk (.n d.sub);obtain⟨h2,a2,o2,e2⟩:=aA h1 o1 (.g (Γ.gd d.sub));obtain⟨h3,a3,o3,e3⟩:=aA h2 o2 (.v v []);have k1:(((ρ.up s.nx (.n d.sub)).up (s.nx+1) (.g (Γ.gd d.sub))).up (s.nx+2) (.v v [])) s.nx=.n d.sub:=by simp[aZ.up]
  have k2:(((ρ.up s.nx (.n d.sub)).up (s.nx+1) (.g (Γ.gd d.sub))).up (s.nx+2) (.v v [])) (s.nx+1)=.g (Γ.gd d.sub):=by simp[aZ.up]
  have k3:(((ρ.up s.nx (.n d.sub)).up (s.nx+1) (.g (Γ.gd d.sub))).up (s.nx+2) (.v v [])) (s.nx+2)=.v v []:=by simp[aZ.up]
  have a:cM s.nx ρ (((ρ.up s.nx (.n d.sub)).up (s.nx+1) (.g (Γ.gd d.sub))).up (s.nx+2) (.v v [])):=fun i hi=>by
   simp only[aZ.up];rw[if_neg (by omega),if_neg (by omega),if_neg (by omega)]
  refine fI.mk a (by show s.nx<=s.nx+1+1+1;omega) ((o3.aY ?_).Lb ⟨?_,?_,fun hf=>by cases hf⟩) ⟨_,_,h3,?_,dH _,rfl,rfl⟩
  ·show fF c.P c.Φ G Γ (.pt ((((ρ.up s.nx (.n d.sub)).up (s.nx+1) (.g (Γ.gd d.sub))).up (s.nx+2) (.v v [])) (s.nx+2)).vv cc ((((ρ.up s.nx (.n d.sub)).up (s.nx+1) (.g (Γ.gd d.sub))).up (s.nx+2) (.v v [])) s.nx).nn);rw[k1,k3,U.jl hr];exact ht
  ·show ((((ρ.up s.nx (.n d.sub)).up (s.nx+1) (.g (Γ.gd d.sub))).up (s.nx+2) (.v v [])) s.nx).nn<Γ.ng;rw[k1];exact OW ht hk.q.ht
  ·show Γ.gd ((((ρ.up s.nx (.n d.sub)).up (s.nx+1) (.g (Γ.gd d.sub))).up (s.nx+2) (.v v [])) s.nx).nn=((((ρ.up s.nx (.n d.sub)).up (s.nx+1) (.g (Γ.gd d.sub))).up (s.nx+2) (.v v [])) (s.nx+1)).gg;rw[k1,k2];rfl
  ·show ((((ρ.up s.nx (.n d.sub)).up (s.nx+1) (.g (Γ.gd d.sub))).up (s.nx+2) (.v v [])) (s.nx+2)).vv=v;rw[k3];exact U.jl hr
theorem IE {g cc:Nat}{K:SC->Option Nat->SS->R}{v:AV}{d:Gd}(h:(qP.Tx cf g cc s K).Ok)(hΦ:cf.Φ=c.Φ)(hk:Ok c T G Γ ρ s)(hg:bJ s.nx g=true)(ht:fF c.P c.Φ G Γ (.mp v cc (gi c.Φ d (ig ρ g) cc))):Ty c T G Γ s ρ v 0 K:=by
 unfold qP.Tx at h;rw[hΦ]at h;have hr:cr v=true:=tj ht;cases hv:c.Φ.via cc with
 |false =>
  rw[hv]at h;simp only[qP,cond_true,cond_false]at h;obtain⟨h1,h2,h3,h4⟩:=aA h hk (.v v []);have e1:(ρ.up s.nx (.v v []) s.nx).vv=v:=by rw[h4];exact U.jl hr
  refine fI.mk h2 (by show s.nx<=s.nx+1;omega) (h3.aY ?_) ⟨_,_,h1,e1,dH _,rfl,rfl⟩;show fF c.P c.Φ G Γ (.mp _ cc (ig _ (wG c.Φ g cc)))
  have:ig (ρ.up s.nx (.v v [])) (wG c.Φ g cc)=gi c.Φ d (ig ρ g) cc:=by
   rw[rz hv];unfold wG;cases c.Φ.dep cc with
   |true=>exact ba h2 hg
   |false=>rfl
  rw[e1,this];exact ht
 |true=>rw[hv]at h;cases h
theorem CK {g J:Nat}{d:Option Nat}{j:LE}{k:K2}{K:SC->Option Nat->SS->R}{v:AV}{fs:List TF}(h:(qP cf g d j k s K).Ok)(hΦ:cf.Φ=c.Φ)(hk:Ok c T G Γ ρ s)(hg:bJ s.nx g=true)
  (hd:∀dv,d=some dv->dv<s.nx/\Γ.gd (ig ρ g)=(ρ dv).gg) (hj:j.lt s.nx=true/\0<=j.ev ρ/\J=(j.ev ρ).toNat) (hv:Kv c.Φ (Γ.gd (ig ρ g)) (ig ρ g) J k v fs) (hf:∀f∈fs,fF c.P c.Φ G Γ f):Ty c T G Γ s ρ v (iO c.Φ fs) K:=by
 obtain⟨hj1,hj2,hj3⟩:=hj;cases k with
 |int kd =>
  obtain⟨⟨z,rfl⟩,rfl⟩:=hv;simp only[qP,cond_true,cond_false]at h;obtain⟨h1,h2,h3,h4⟩:=aA h hk (.z z);exact fI.mk h2 (zan _) h3 ⟨_,_,h1,by simp only[SC.den,LE.aQ,Rd.At.ev];rw[h4];rfl,by simp[SC.lt,LE.lt,LE.a,aC,At.id,dH],rfl,rfl⟩
 |nat b =>
  obtain⟨⟨n,rfl,hlt⟩,rfl⟩:=hv;simp only[qP,cond_true,cond_false]at h;obtain⟨h1,h2,h3,h4⟩:=aA h hk (.n n);have hev:(LE.a (.n s.nx)).ev (ρ.up s.nx (.n n))=n:=by rw[LE.aQ];show ((ρ.up s.nx (.n n) s.nx).nn:Int)=n;rw[h4];rfl
  have hden:SC.den (ρ.up s.nx (.n n)) (.int .i64 (.a (.n s.nx)))=.int .i64 (.ofNat n):=by simp only[SC.den,hev];rfl
  cases d with
  |none=>exact fI.mk h2 (zan _) h3 ⟨_,_,h1,hden,by simp[SC.lt,LE.lt,LE.a,aC,At.id,dH],rfl,rfl⟩
  |some dv =>
   obtain⟨d1,d2⟩:=hd dv rfl;refine fI.mk h2 (zan _) (h3.aP ?_) ⟨_,_,h1,hden,by simp[SC.lt,LE.lt,LE.a,aC,aP,At.id,dH],rfl,rfl⟩;rw[LE.aO,LE.aw,hev,LE.aQ];show 0<=(((ρ.up s.nx (.n n) dv).gg.n b:Nat):Int)-n+-1;rw[h2 dv d1,<-d2];omega
 |pos b =>
  obtain⟨⟨n,rfl,h1n,hlt⟩,rfl⟩:=hv;simp only[qP,cond_true,cond_false]at h;obtain⟨h1,h2,h3,h4⟩:=aA h hk (.n n);have hev:(LE.a (.n s.nx)).ev (ρ.up s.nx (.n n))=n:=by rw[LE.aQ];show ((ρ.up s.nx (.n n) s.nx).nn:Int)=n;rw[h4];rfl
  have hden:SC.den (ρ.up s.nx (.n n)) (.int .i64 (.a (.n s.nx)))=.int .i64 (.ofNat n):=by simp only[SC.den,hev];rfl
  have h3':=h3.aP (e:=(LE.a (.n s.nx)).bk (-1)) (by rw[LE.aO,hev];omega);cases d with
  |none=>exact fI.mk h2 (zan _) h3' ⟨_,_,h1,hden,by simp[SC.lt,LE.lt,LE.a,aC,aP,At.id,dH],rfl,rfl⟩
  |some dv =>
   obtain⟨d1,d2⟩:=hd dv rfl;refine fI.mk h2 (zan _) (h3'.aP ?_) ⟨_,_,h1,hden,by simp[SC.lt,LE.lt,LE.a,aC,aP,At.id,dH],rfl,rfl⟩;rw[LE.aw,hev,LE.aQ];show 0<=(((ρ.up s.nx (.n n) dv).gg.n b:Nat):Int)-n;rw[h2 dv d1,<-d2];omega
 |str =>
  obtain⟨⟨l,n,rfl,hlim⟩,rfl⟩:=hv;simp only[qP,cond_true,cond_false]at h;obtain⟨h1,h2,h3,h4⟩:=aA h hk (.s l n);exact fI.mk h2 (zan _) h3 ⟨_,_,h1,by simp only[SC.den];rw[h4,U.mB hlim];rfl,by simp[SC.lt,aC,dH],rfl,rfl⟩
 |sU =>
  obtain⟨⟨l,n,rfl,hlim,hnm⟩,rfl⟩:=hv;simp only[qP]at h;cases hs:Nn s.ty g j with
  |some x =>
   rw[hs]at h;simp only at h;cases hb:x.lt s.nx with
   |false=>rw[hb]at h;cases h
   |true =>
    rw[hb]at h;obtain⟨e',m1,m2⟩:=me hs;obtain⟨_,l',n',k1,k2,k3⟩:=hk.q.ty _ (List.mem_map.2 ⟨_,m1,rfl⟩);have k3:(Γ.gd (ig ρ g)).nm (e'.ev ρ).toNat=some (l',n'):=k3;rw[m2 ρ,<-hj3,hnm]at k3;cases k3;exact fI.here hk ⟨x,none,h,k1,hb,rfl,rfl⟩
  |none =>
   rw[hs]at h;simp only at h;cases hgi:pr s g with
   |false =>
    rw[hgi]at h;simp only[cond_false]at h;obtain⟨h1,h2,h3,h4⟩:=aA h hk (.s l n);exact fI.mk h2 (zan _) h3 ⟨_,_,h1,by simp only[SC.den];rw[h4,U.mB hlim];rfl,by simp[SC.lt,aC,dH],rfl,rfl⟩
   |true =>
    rw[hgi]at h;simp only[cond_true]at h;obtain⟨h1,h2,h3,h4⟩:=aA h hk (.s l n);have hx:(SC.str s.nx).den (ρ.up s.nx (.s l n))=.str l n:=by simp only[SC.den];rw[h4,U.mB hlim];rfl
    refine fI.mk (s':=aY (aC s) (.sj g j (.str s.nx))) h2 (zan _) ⟨⟨h3.sat.fs,h3.sat.bs,h3.sat.pw,h3.sat.ats,h3.sat.cU,h3.sat.ne,h3.sat.fz,h3.sat.sb⟩,⟨h3.q.ml,h3.q.at_,h3.q.uB,h3.q.rl,h3.q.grow,h3.q.own,h3.q.new,h3.q.nd,h3.q.ht,fun f hf=>?_,h3.q.gs⟩⟩ ⟨.str s.nx,none,h1,hx,by simp[SC.lt,aC,aY,dH],rfl,rfl⟩;rcases List.mem_cons.1 hf with rfl|hf
    ·refine⟨by show ig (ρ.up s.nx (.s l n)) g<_;rw[ba h2 hg];exact gJ hgi hk,l,n,hx,hlim,?_⟩;show (Γ.gd (ig (ρ.up s.nx (.s l n)) g)).nm (j.ev (ρ.up s.nx (.s l n))).toNat=_;rw[ba h2 hg,LE.bG h2 hj1,<-hj3];exact hnm
    ·exact h3.q.ty f hf
 |vx b =>
  obtain⟨⟨l,n,rfl,hlim,hlb⟩,rfl⟩:=hv;simp only[qP,cond_true,cond_false]at h;obtain⟨h1,h2,h3,h4⟩:=aA h hk (.s l n);refine fI.mk h2 (zan _) (h3.aP ?_) ⟨_,_,h1,by simp only[SC.den];rw[h4,U.mB hlim];rfl,by simp[SC.lt,aC,aP,dH],rfl,rfl⟩;rw[LE.aw,LE.bz,LE.aQ];show 0<=(b:Int)-(((ρ.up s.nx (.s l n)) s.nx).sl:Int);rw[h4,U.mB hlim];omega
 |rp =>
  obtain⟨⟨l,n,rfl,hlim,hat⟩,rfl⟩:=hv;simp only[qP,cond_true,cond_false]at h;obtain⟨h1,h2,h3,h4⟩:=aA h hk (.s l n);have hden:SC.den (ρ.up s.nx (.s l n)) (.str s.nx)=.str l n:=by simp only[SC.den];rw[h4,U.mB hlim];rfl
  cases d with
  |none=>exact fI.mk h2 (zan _) h3 ⟨_,_,h1,hden,by simp[SC.lt,aC,dH],rfl,rfl⟩
  |some dv =>
   obtain⟨d1,d2⟩:=hd dv rfl;refine fI.mk h2 (zan _) (h3.gk ?_) ⟨_,_,h1,hden,by simp[SC.lt,aC,gk,dH],rfl,rfl⟩;refine .inl ?_;show 0<=j.ev _/\po (ρ.up s.nx (.s l n) dv).gg (SC.den (ρ.up s.nx (.s l n)) (.str s.nx))=some (j.ev _).toNat;rw[LE.bG h2 hj1,h2 dv d1,<-d2,hden];exact⟨hj2,by rw[<-hj3];exact hat⟩
 |bool =>
  obtain⟨⟨b,rfl⟩,rfl⟩:=hv;simp only[qP,cond_true,cond_false]at h;obtain⟨h1,h2,h3,h4⟩:=aA h hk (.b b);exact fI.mk h2 (zan _) h3 ⟨_,_,h1,by simp only[SC.den,BE.ev];rw[h4];rfl,by simp[SC.lt,BE.lt,aC,dH],rfl,rfl⟩
 |oz kd =>
  obtain⟨⟨b,rfl⟩,rfl⟩:=hv;simp only[qP,cond_true,cond_false]at h;obtain⟨h1,h2,h3,h4⟩:=aA h hk (.n b);exact fI.mk h2 (zan _) h3 ⟨_,_,h1,by simp only[SC.den];rw[h4];rfl,by simp[SC.lt,aC,dH],rfl,rfl⟩
 |sl cc =>
  obtain⟨ns,rfl⟩:=hv;simp only[qP]at h;obtain⟨ρ1,s1,h1,h2,h3,h4,h5,h6,_⟩:=px h hΦ hk hg (hf _ (zaz _));rw[hΦ]at h1;exact fI.mk h2 (by omega) h4 ⟨_,_,h1,h5,by simp only[SC.lt];exact eU (by omega),eC h6,eV (by omega)⟩
 |BD cc b =>
  obtain⟨ns,rfl,hle⟩:=hv;simp only[qP]at h;obtain⟨ρ1,s1,h1,h2,h3,h4,h5,h6,_⟩:=px h hΦ hk hg (hf _ (zaz _));rw[hΦ]at h1;refine fI.mk h2 (by show s.nx<=s1.nx;omega) (h4.aP ?_) ⟨_,_,h1,h5,by simp only[SC.lt];exact eU (by show s.nx<s1.nx;omega),eC h6,eV (by show s.nx<s1.nx;omega)⟩;rw[LE.aw,LE.bz,LE.aQ];show 0<=(b:Int)-((ρ1 s.nx).ns.length:Int);rw[h6];omega
 |x5 cc b =>
  obtain⟨ns,rfl,hle⟩:=hv;simp only[qP]at h;obtain⟨ρ1,s1,h1,h2,h3,h4,h5,h6,_⟩:=px h hΦ hk hg (hf _ (zaz _));rw[hΦ]at h1;cases d with
  |none=>exact fI.mk h2 (by omega) h4 ⟨_,_,h1,h5,by simp only[SC.lt];exact eU (by omega),eC h6,eV (by omega)⟩
  |some dv =>
   obtain⟨d1,d2⟩:=hd dv rfl;refine fI.mk h2 (by show s.nx<=s1.nx;omega) (h4.aP ?_) ⟨_,_,h1,h5,by simp only[SC.lt];exact eU (by show s.nx<s1.nx;omega),eC h6,eV (by show s.nx<s1.nx;omega)⟩;rw[LE.aw,LE.aQ,LE.aQ];show 0<=(((ρ1 dv).gg.n b:Nat):Int)-((ρ1 s.nx).ns.length:Int);rw[h6,h2 dv d1,<-d2];omega
 |yY cc b =>
  obtain⟨ns,rfl,hz,hle⟩:=hv;simp only[qP]at h;obtain⟨ρ1,s1,h1,h2,h3,h4,h5,h6,_⟩:=px h hΦ hk hg (hf _ (zaz _));rw[hΦ]at h1;cases d with
  |none=>exact fI.mk h2 (by omega) h4 ⟨_,_,h1,h5,by simp only[SC.lt];exact eU (by omega),eC h6,eV (by omega)⟩
  |some dv =>
   obtain⟨d1,d2⟩:=hd dv rfl;refine fI.mk h2 (by show s.nx<=s1.nx;omega) ((h4.aP ?_).aP ?_) ⟨_,_,h1,h5,by simp only[SC.lt];exact eU (by show s.nx<s1.nx;omega),eC h6,eV (by show s.nx<s1.nx;omega)⟩
   ·rw[LE.aw,LE.aQ,LE.aQ];show 0<=(((ρ1 dv).gg.n b:Nat):Int)-((ρ1 s.nx).ns.length:Int);rw[h6,h2 dv d1,<-d2];omega
   ·rw[LE.aw,LE.aQ,LE.aQ];show 0<=((ρ1 s.nx).ns.length:Int)-(((ρ1 dv).gg.n b:Nat):Int);rw[h6,h2 dv d1,<-d2];omega
 |AR cc =>
  obtain⟨ns,rfl,hz,hle⟩:=hv;simp only[qP]at h;obtain⟨ρ1,s1,h1,h2,h3,h4,h5,h6,h7⟩:=px h hΦ hk hg (hf _ (zaz _));rw[hΦ]at h1;cases d with
  |none=>exact fI.mk h2 (by omega) h4 ⟨_,_,h1,h5,by simp only[SC.lt];exact eU (by omega),eC h6,eV (by omega)⟩
  |some dv =>
   obtain⟨d1,d2⟩:=hd dv rfl;have hlen:(LE.a (.len s.nx)).ev ρ1=(ns.length:Int):=by rw[LE.aQ];show (((ρ1 s.nx).ns.length:Nat):Int)=_;rw[h6]
   simp only at h1;cases hl:yg s1.cU dv j with
   |none =>
    rw[hl]at h1;refine fI.mk h2 (by show s.nx<=s1.nx;omega) (h4.wF ?_) ⟨_,_,h1,h5,by simp only[SC.lt];exact eU (by show s.nx<s1.nx;omega),eC h6,eV (by show s.nx<s1.nx;omega)⟩;show 0<=j.ev ρ1/\(ρ1 dv).gg.fz=true/\(((ρ1 dv).gg.fl (j.ev ρ1).toNat:Nat):Int)=(LE.a (.len s.nx)).ev ρ1;rw[LE.bG h2 hj1,h2 dv d1,<-d2,hlen,<-hj3,hle];exact⟨hj2,hz,rfl⟩
   |some e =>
    rw[hl]at h1;obtain⟨j',m1,m2⟩:=qG hl;obtain⟨_,_,k3⟩:=h4.sat.cU _ m1;have k3:(((ρ1 dv).gg.fl (j'.ev ρ1).toNat:Nat):Int)=e.ev ρ1:=k3;rw[m2 ρ1,LE.bG h2 hj1,<-hj3,h2 dv d1,<-d2,<-hle]at k3;refine fI.mk h2 (by show s.nx<=s1.nx;omega) ((h4.aP ?_).aP ?_) ⟨_,_,h1,h5,by simp only[SC.lt];exact eU (by show s.nx<s1.nx;omega),eC h6,eV (by show s.nx<s1.nx;omega)⟩
    ·rw[LE.aw,hlen];omega
    ·rw[LE.aw,hlen];omega
 |rq b =>
  obtain⟨n,q,rfl,hn,hq,rfl⟩:=hv;simp only[qP]at h;obtain⟨a1,a2,a3,a4⟩:=aA h hk (.n n);obtain⟨b1,b2,b3,b4⟩:=aA a1 a3 (.v .ab (wL q));obtain⟨w1,w2⟩:=IC q;have a2':cM s.nx ρ ((ρ.up s.nx (.n n)).up (aC s).nx (.v .ab (wL q))):=a2.trans b2 (zan _);have ex:(((ρ.up s.nx (.n n)).up (aC s).nx (.v .ab (wL q))) s.nx).nn=n:=by rw[b2 s.nx (zdc _),a4];rfl
  have ey:(((ρ.up s.nx (.n n)).up (aC s).nx (.v .ab (wL q))) (aC s).nx).ns=wL q:=by rw[b4];exact U.iw w2
  have e1:(SC.int .i64 (.a (.n s.nx))).den ((ρ.up s.nx (.n n)).up (aC s).nx (.v .ab (wL q)))=.int .i64 (.ofNat n):=by
   show AV.int .i64 ((LE.a (.n s.nx)).ev _)=_;rw[LE.aQ];show AV.int .i64 (((_:Nat)):Int)=_;rw[ex];rfl
  have ew:Gb ((ρ.up s.nx (.n n)).up (aC s).nx (.v .ab (wL q))) (some (aC s).nx)=iO c.Φ [.wn q]:=by
   show (_:List Nat).sum+_=_;rw[ey,w1];simp[iO,sw]
  cases d with
  |none=>exact fI.mk a2' (by show s.nx<=s.nx+1+1;omega) b3 ⟨_,_,b1,e1,by simp only[SC.lt,LE.lt,LE.a,zdk,List.all_nil,Bool.and_true,At.id];exact eU (by show s.nx<s.nx+1+1;omega),ew,eU (by show s.nx+1<s.nx+1+1;omega)⟩
  |some dv =>
   obtain⟨d1,d2⟩:=hd dv rfl;refine fI.mk a2' (by show s.nx<=s.nx+1+1;omega) ((b3.aP ?_).gk (.inl ⟨?_,?_⟩)) ⟨_,_,b1,e1,by simp only[SC.lt,LE.lt,LE.a,zdk,List.all_nil,Bool.and_true,At.id];exact eU (by show s.nx<s.nx+1+1;omega),ew,eU (by show s.nx+1<s.nx+1+1;omega)⟩
   ·rw[LE.aO,LE.aw,LE.aQ,LE.aQ];show 0<=(((_:Gd).n b:Nat):Int)-(((_:U).nn:Nat):Int)+(-1);rw[ex,a2' dv d1,<-d2];omega
   ·rw[LE.aQ];exact zde _
   ·show po _ ((SC.int .i64 (.a (.n s.nx))).den _)=some ((LE.a (.wt (aC s).nx)).ev _).toNat;rw[e1,LE.aQ];show (_:Gd).wn n=some (((_:List Nat).sum+(_:List Nat).length:Nat):Int).toNat;rw[ey,w1,a2' dv d1,<-d2,hq];simp
 |DU cc w =>
  obtain⟨ns,rfl,hw,q,hq,hle⟩:=hv;simp only[qP]at h;obtain⟨ρ1,s1,h1,h2,h3,h4,h5,h6,h7⟩:=px h hΦ hk hg (hf _ (zaz _));rw[hΦ]at h1;have hwt:(LE.a (.wt s.nx)).ev ρ1=((ns.sum+ns.length:Nat):Int):=by rw[LE.aQ];show (((_:List Nat).sum+(_:List Nat).length:Nat):Int)=_;rw[h6]
  have hF:0<=((LE.k w).sub (.a (.wt s.nx))).ev ρ1:=by rw[LE.aw,LE.bz,hwt];omega
  cases d with
  |none=>exact fI.mk h2 (by show s.nx<=s1.nx;omega) (h4.aP hF) ⟨_,_,h1,h5,by simp only[SC.lt];exact eU (by show s.nx<s1.nx;omega),eC h6,eV (by show s.nx<s1.nx;omega)⟩
  |some dv =>
   obtain⟨d1,d2⟩:=hd dv rfl;simp only at h1;have plainly:∀{s2:SS},s2.nx=s1.nx->Ok c T G Γ ρ1 s2->(K (.ref s.nx) (plain c.Φ cc s.nx) s2).Ok->Ty c T G Γ s ρ v (iO c.Φ [.sl v cc (gi c.Φ (Γ.gd (ig ρ g)) (ig ρ g) cc) ns]) K:=fun e o hh=>fI.mk h2 (by rw[e];omega) o ⟨_,_,hh,h5,by simp only[SC.lt];exact eU (by rw[e];omega),eC h6,eV (by rw[e];omega)⟩;cases hl:IB s1 dv j s1.ats with
   |none =>
    rw[hl]at h1;simp only at h1;obtain⟨w1,w2⟩:=IC q;obtain⟨b1,b2,b3,b4⟩:=aA h1 h4 (.v .ab (wL q));have a2:cM s.nx ρ (ρ1.up s1.nx (.v .ab (wL q))):=h2.trans b2 (by omega);have ey:((ρ1.up s1.nx (.v .ab (wL q))) s1.nx).ns=wL q:=by rw[b4];exact U.iw w2
    have ex:((ρ1.up s1.nx (.v .ab (wL q))) s.nx)=ρ1 s.nx:=b2 s.nx (by omega);have hy:(LE.a (.wt s1.nx)).ev (ρ1.up s1.nx (.v .ab (wL q)))=(q:Int):=by rw[LE.aQ];show (((_:List Nat).sum+(_:List Nat).length:Nat):Int)=_;rw[ey,w1]
    have hwt2:(LE.a (.wt s.nx)).ev (ρ1.up s1.nx (.v .ab (wL q)))=((ns.sum+ns.length:Nat):Int):=by rw[LE.aQ];show ((((ρ1.up s1.nx (.v .ab (wL q))) s.nx).ns.sum+((ρ1.up s1.nx (.v .ab (wL q))) s.nx).ns.length:Nat):Int)=_;rw[ex,h6]
    refine fI.mk a2 (by show s.nx<=s1.nx+1;omega) (((b3.aP ?_).aP ?_).gk (.inl ⟨?_,?_⟩)) ⟨_,_,b1,?_,by simp only[SC.lt];exact eU (by show s.nx<s1.nx+1;omega),eC (by rw[ex];exact h6),eV (by show s.nx<s1.nx+1;omega)⟩
    ·rw[LE.aw,LE.bz,hwt2];omega
    ·rw[LE.aw,hy,hwt2];omega
    ·show 0<=(LE.a (.wt s1.nx)).ev _;rw[hy];omega
    ·show po ((ρ1.up s1.nx (.v .ab (wL q))) dv).gg (.int .i64 (j.ev (ρ1.up s1.nx (.v .ab (wL q)))))=some ((LE.a (.wt s1.nx)).ev (ρ1.up s1.nx (.v .ab (wL q)))).toNat;rw[hy,LE.bG a2 hj1,a2 dv d1,<-d2];have ej:j.ev ρ=Int.ofNat (j.ev ρ).toNat:=by show _=(((j.ev ρ).toNat:Nat):Int);omega
     rw[ej];show (Γ.gd (ig ρ g)).wn (j.ev ρ).toNat=_;rw[<-hj3,hq];simp
    ·show ((ρ1.up s1.nx (.v .ab (wL q))) s.nx).vv=v;rw[ex];exact h5
   |some e =>
    rw[hl]at h1;simp only at h1;cases hv2:Nm e with
    |none=>rw[hv2]at h1;exact plainly (by rfl) (h4.aP hF) h1
    |some y =>
     rw[hv2]at h1;refine plainly (by rfl) ((h4.aP hF).aP ?_) h1;obtain⟨k,e',m1,m2⟩:=yj h4.sat hl;have hat:=h4.sat.ats _ m1;have hee:=CI hv2 ρ1
     have:po (ρ1 dv).gg ((SC.int k e').den ρ1)=some q:=by
      show po (ρ1 dv).gg (.int k (e'.ev ρ1))=_;rw[m2,LE.bG h2 hj1,h2 dv d1,<-d2];have ej:j.ev ρ=Int.ofNat (j.ev ρ).toNat:=by show _=(((j.ev ρ).toNat:Nat):Int);omega
      rw[ej];show (Γ.gd (ig ρ g)).wn (j.ev ρ).toNat=_;rw[<-hj3];exact hq
     rcases hat with ⟨b1,b2⟩|⟨b1,b2⟩
     ·have b2:po (ρ1 dv).gg ((SC.int k e').den ρ1)=some (e.ev ρ1).toNat:=b2;rw[this]at b2;have b2:=Option.some.inj b2;have b1:0<=e.ev ρ1:=b1;rw[LE.aw,hwt];omega
     ·have b1:e.ev ρ1<0:=b1;rw[hee]at b1;omega
 |Ct cc w =>
  obtain⟨ns,rfl,hw⟩:=hv;simp only[qP]at h;obtain⟨ρ1,s1,h1,h2,h3,h4,h5,h6,h7⟩:=px h hΦ hk hg (hf _ (zaz _));rw[hΦ]at h1;have hwt:(LE.a (.wt s.nx)).ev ρ1=((ns.sum+ns.length:Nat):Int):=by rw[LE.aQ];show (((_:List Nat).sum+(_:List Nat).length:Nat):Int)=_;rw[h6]
  exact fI.mk h2 (by show s.nx<=s1.nx;omega) (h4.aP (by rw[LE.aw,LE.bz,hwt];omega)) ⟨_,_,h1,h5,by simp only[SC.lt];exact eU (by show s.nx<s1.nx;omega),eC h6,eV (by show s.nx<s1.nx;omega)⟩
 |ptr cc=>cases hv;exact ID h hΦ hk hg (hf _ (zaz _))
 |DV cc =>
  obtain⟨h1,h2⟩:=R.gp h;rcases hv with ⟨rfl,rfl⟩|rfl
  ·exact fI.here hk ⟨_,_,h1,rfl,rfl,rfl,rfl⟩
  ·exact ID h2 hΦ hk hg (hf _ (zaz _))
 |mp cc=>cases hv;exact IE h hΦ hk hg (hf _ (zaz _))
 |DW cc =>
  obtain⟨h1,h2⟩:=R.gp h;rcases hv with ⟨rfl,rfl⟩|rfl
  ·exact fI.here hk ⟨_,_,h1,rfl,rfl,rfl,rfl⟩
  ·exact IE h2 hΦ hk hg (hf _ (zaz _))
 |bad=>exact hv.elim
def OX (cf:Cf)(g:Nat)(d:Option Nat)(j:LE):List K2->(List SC->List Nat->SS->R)->SS->R
 | [],K,s=>K [] [] s
 |k::ks,K,s=>qP cf g d j k s fun x o s=>OX cf g d j ks (fun xs os s=>K (x::xs) (o.toList++os) s) s
def iG:List Nat->LE
 | []=>.k 0
 |x::xs=>(iG xs).add (.a (.wt x))
theorem yn:∀xs,((iG xs).ev ρ:Int)=((xs.map fun x=>(ρ x).ns.sum+(ρ x).ns.length).sum:Nat)
 | []=>by rw[iG,LE.bz];rfl
 |x::xs=>by
  rw[iG,LE.ib,LE.aQ,yn xs,zal,zd];show _+(((ρ x).ns.sum+(ρ x).ns.length:Nat):Int)=_;omega
theorem OY {g dv:Nat}(h:cM s.nx ρ ρ')(hg:bJ s.nx g=true)(hd:dv<s.nx/\Γ.gd (ig ρ g)=(ρ dv).gg){n:Nat}(hn:s.nx<=n):dv<n/\Γ.gd (ig ρ' g)=(ρ' dv).gg:=by
 rw[ba h hg,h dv hd.1];exact⟨by omega,hd.2⟩
theorem Gc {n n' g:Nat}(h:bJ n g=true)(hn:n<=n'):bJ n' g=true:=zbv (zam (aK h) hn)
theorem LE.Ld {n n':Nat}{e:LE}(h:e.lt n=true)(hn:n<=n'):e.lt n'=true:=by
 unfold LE.lt at h ⊢;rw[zb]at h ⊢;exact fun p hp=>eU (by have:=av (h p hp);omega)
theorem Lf {n:Nat}{o:Option Nat}(h:Ke n o=true):∀x∈o.toList,x<n:=by
 cases o with
 |none=>intro x hx;cases hx
 |some y=>intro x hx;rw[List.mem_singleton.1 hx];exact av h
theorem D7 {g J:Nat}{d:Option Nat}{j:LE}(hΦ:cf.Φ=c.Φ):∀{ks:List K2}{s:SS}{ρ:aZ}{K:List SC->List Nat->SS->R}{cs:List AV}{fs:List TF},(OX cf g d j ks K s).Ok->Ok c T G Γ ρ s->bJ s.nx g=true ->
  (∀dv,d=some dv->dv<s.nx/\Γ.gd (ig ρ g)=(ρ dv).gg)->(j.lt s.nx=true/\0<=j.ev ρ/\J=(j.ev ρ).toNat)->ia c.Φ (Γ.gd (ig ρ g)) (ig ρ g) J ks cs fs->(∀f∈fs,fF c.P c.Φ G Γ f) ->
  fI c T G Γ s ρ fun ρ' s'=>∃xs os,(K xs os s').Ok/\aB ρ' xs=cs/\(∀y∈os,y<s'.nx)/\((os.map fun x=>(ρ' x).ns.sum+(ρ' x).ns.length).sum=iO c.Φ fs)
 | [],s,ρ,K,cs,fs,h,hk,hg,hd,hj,⟨h1,h2⟩,hf=>by
   subst h1 h2;exact fI.here hk ⟨[],[],h,rfl,(fun y hy=>by cases hy),rfl⟩
 |k::ks,s,ρ,K,_,_,h,hk,hg,hd,hj,⟨v,cs',f,fs',h1,h2,h3,h4⟩,hf=>by
  subst h1 h2;refine (CK h hΦ hk hg hd hj h3 fun x hx=>hf x (zbo _ hx)).bind fun ρ1 s1 a1 n1 o1 ⟨x,o,g1,g2,g3,g4,g5⟩=>?_;refine (D7 hΦ (J:=J) g1 o1 (Gc hg n1) (fun dv he=>OY a1 hg (hd dv he) n1) ⟨LE.Ld hj.1 n1,by rw[LE.bG a1 hj.1];exact hj.2⟩ (by rw[ba a1 hg];exact h4) fun x hx=>hf x (zbt _ hx)).mono fun ρ2 s2 a2 n2 o2 hh=>?_;obtain⟨xs,os,k1,k2,k3,k4⟩:=hh;refine⟨_,_,k1,?_,fun y hy=>?_,?_⟩
  ·show x.den ρ2::aB ρ2 xs=_;rw[SC.bG a2 g3,g2,k2]
  ·rcases List.mem_append.1 hy with hy|hy
   ·have:=Lf g5 y hy;omega
   ·exact k3 y hy
  ·rw[zat,zdv,k4,iE,<-g4];congr 1;cases o with
   |none=>rfl
   |some y =>
    have:=av g5;simp only[Option.toList,zal,zdy,zd,List.sum_nil,Gb,zbu];rw[a2 y this]
end
end Go.Rd
namespace Go.Rd
open Go.aI Go.RowKit Go.Rt
def sc (x:SC):SV:=.v false [x]
def py:List c6->Nat->Option (Nat×Nat)
 | [],_=>none
 |.sl y c g::l,x=>bif Nat.beq y x then some (c,g)else py l x
 |_::l,x=>py l x
def pI:List c6->Nat->Option (Nat×Nat)
 | [],_=>none
 |.pt y c g::l,x=>bif Nat.beq y x then some (c,g)else pI l x
 |_::l,x=>pI l x
def BF:List c6->Nat->Option (Nat×Nat)
 | [],_=>none
 |.mp y c g::l,x=>bif Nat.beq y x then some (c,g)else BF l x
 |_::l,x=>BF l x
theorem gE:∀{l:List c6}{x c g:Nat},py l x=some (c,g)->c6.sl x c g∈l
 | [],_,_,_,h=>by cases h
 |.sl y c' g'::l,x,c,g,h=>by
  have h:(bif Nat.beq y x then some (c',g')else py l x)=some (c,g):=h;cases hb:Nat.beq y x with
  |true=>rw[hb]at h;cases h;have:=zab hb;subst this;exact zac ..
  |false=>rw[hb]at h;exact zaa _ (gE h)
 |.pt y c' g'::l,x,c,g,h=>zaa _ (gE (l:=l) h)
 |.mp y c' g'::l,x,c,g,h=>zaa _ (gE (l:=l) h)
 |.el _ _ _ _ _::l,x,c,g,h=>zaa _ (gE (l:=l) h)
 |.sj _ _ _::l,x,c,g,h=>zaa _ (gE (l:=l) h)
theorem iN:∀{l:List c6}{x c g:Nat},pI l x=some (c,g)->c6.pt x c g∈l
 | [],_,_,_,h=>by cases h
 |.pt y c' g'::l,x,c,g,h=>by
  have h:(bif Nat.beq y x then some (c',g')else pI l x)=some (c,g):=h;cases hb:Nat.beq y x with
  |true=>rw[hb]at h;cases h;have:=zab hb;subst this;exact zac ..
  |false=>rw[hb]at h;exact zaa _ (iN h)
 |.sl y c' g'::l,x,c,g,h=>zaa _ (iN (l:=l) h)
 |.mp y c' g'::l,x,c,g,h=>zaa _ (iN (l:=l) h)
 |.el _ _ _ _ _::l,x,c,g,h=>zaa _ (iN (l:=l) h)
 |.sj _ _ _::l,x,c,g,h=>zaa _ (iN (l:=l) h)
theorem j9:∀{l:List c6}{x c g:Nat},BF l x=some (c,g)->c6.mp x c g∈l
 | [],_,_,_,h=>by cases h
 |.mp y c' g'::l,x,c,g,h=>by
  have h:(bif Nat.beq y x then some (c',g')else BF l x)=some (c,g):=h;cases hb:Nat.beq y x with
  |true=>rw[hb]at h;cases h;have:=zab hb;subst this;exact zac ..
  |false=>rw[hb]at h;exact zaa _ (j9 h)
 |.sl y c' g'::l,x,c,g,h=>zaa _ (j9 (l:=l) h)
 |.pt y c' g'::l,x,c,g,h=>zaa _ (j9 (l:=l) h)
 |.el _ _ _ _ _::l,x,c,g,h=>zaa _ (j9 (l:=l) h)
 |.sj _ _ _::l,x,c,g,h=>zaa _ (j9 (l:=l) h)
def ic:List SO->Nat->Option (TypeId×List SC)
 | [],_=>none
 |.loc b el cs::l,x=>bif Nat.beq b x then some (el,cs)else ic l x
 |_::l,x=>ic l x
theorem dA:∀{l:List SO}{x:Nat}{el:TypeId}{cs:List SC},ic l x=some (el,cs)->SO.loc x el cs∈l
 | [],_,_,_,h=>by cases h
 |.loc b el' cs'::l,x,el,cs,h=>by
  have h:(bif Nat.beq b x then some (el',cs')else ic l x)=some (el,cs):=h;cases hb:Nat.beq b x with
  |true=>rw[hb]at h;cases h;have:=zab hb;subst this;exact zac ..
  |false=>rw[hb]at h;exact zaa _ (dA h)
 |.iF _ _ _::l,x,el,cs,h=>zaa _ (dA (l:=l) h)
 |.ms _ _ _ _ _ _::l,x,el,cs,h=>zaa _ (dA (l:=l) h)
 |.em y c'::l,x,el,cs,h=>zaa _ (dA (l:=l) h)
 |.ul y c' _::l,x,el,cs,h=>zaa _ (dA (l:=l) h)
 |.am y c' _::l,x,el,cs,h=>zaa _ (dA (l:=l) h)
 |.im y c'::l,x,el,cs,h=>zaa _ (dA (l:=l) h)
 |.bl y c' g'::l,x,el,cs,h=>zaa _ (dA (l:=l) h)
 |.km _ _ _ _::l,x,el,cs,h=>zaa _ (dA (l:=l) h)
 |.rm _ _ _ _::l,x,el,cs,h=>zaa _ (dA (l:=l) h)
 |.kq _ _ _ _ _::l,x,el,cs,h=>zaa _ (dA (l:=l) h)
 |.it _ _ _ _ _ _::l,x,el,cs,h=>zaa _ (dA (l:=l) h)
section
variable {c:Cx}{T:Tm}{G:GH}{Γ:dy}{ρ ρ':aZ}{s s':SS}{cf:Cf}{ops:Array Oper}{i:Nat}
theorem Ok.ty {f:c6}(h:Ok c T G Γ ρ s)(hf:f∈s.ty):fF c.P c.Φ G Γ (f.den ρ):=h.q.ty _ (List.mem_map.2 ⟨f,hf,rfl⟩)
theorem Ok.own {o:SO}(h:Ok c T G Γ ρ s)(ho:o∈s.os):dO c.P c.Φ G Γ (o.den ρ):=h.q.own _ (List.mem_map.2 ⟨o,ho,rfl⟩)
theorem Ok.loc {b:Nat}{el:TypeId}{cs:List SC}(h:Ok c T G Γ ρ s)(hl:ic s.os b=some (el,cs)):G (ρ b).nn=some (.cells .loc el cs.length (aB ρ cs)):=by
 have:=(h.own (dA hl)).1;rwa[show (aB ρ cs).length=cs.length by simp[aB]]at this
def Lo (c:Cx)(T:Tm)(G:GH)(Γ:dy)(ops:Array Oper)(i:Nat)(s:SS)(ρ:aZ)(K:SV->SS->R):Prop :=
 fI c T G Γ s ρ fun ρ' s'=>∃v,(K v s').Ok/\bq c.P ops c.n0 c.nt i T c.hp c.nx G (v.den ρ')
theorem Lo.here {K:SV->SS->R}{v:SV}(hk:Ok c T G Γ ρ s)(h:(K v s).Ok)(hl:bq c.P ops c.n0 c.nt i T c.hp c.nx G (v.den ρ)):Lo c T G Γ ops i s ρ K:=fI.here hk ⟨v,h,hl⟩
theorem Lo.fr {K:SV->SS->R}{u:U}{v:SV}(hk:Ok c T G Γ (ρ.up s.nx u) (aC s))(h:(K v (aC s)).Ok)(hl:bq c.P ops c.n0 c.nt i T c.hp c.nx G (v.den (ρ.up s.nx u))):Lo c T G Γ ops i s ρ K:=fI.mk (Im _ _ _) (zan _) hk ⟨v,h,hl⟩
theorem Lo.to {K:SV->SS->R}(hn:s'.nx=s.nx)(h:Lo c T G Γ ops i s' ρ K):Lo c T G Γ ops i s ρ K:=by
 obtain⟨ρ',s2,a,n,o,h⟩:=h;exact⟨ρ',s2,by rw[<-hn];exact a,by omega,o,h⟩
def eE (k:IntKind):Bool:=gB k .i64
theorem dT {k:IntKind}(h:eE k=true):k=.i64:=of_decide_eq_true h
def CM (s:SS)(e:LE):Bool:=bo s (e.bk 9223372036854775808)&&bo s ((LE.k 9223372036854775807).sub e)
theorem D8 {e:LE}(h:CM s e=true)(hs:Sat ρ s):IntKind.i64.wrap (e.ev ρ)=e.ev ρ:=by
 unfold CM at h;rw[za]at h;have h1:=ax h.1 hs;have h2:=ax h.2 hs;rw[LE.aO]at h1;rw[LE.aw,LE.bz]at h2;rw[IntKind.wrap_i64];omega
def Lg (s:SS)(k:IntKind)(e:Option LE)(K:SV->SS->R):R:=match e with
 |some e=>bif eE k&&CM s e then K (sc (.int k e)) s else fresh s fun x s=>K (sc (.int k (.a (.z x)))) s
 |none=>fresh s fun x s=>K (sc (.int k (.a (.z x)))) s
theorem Re (ρ:aZ)(k:IntKind)(x:Nat)(z:Int)(h:ρ x=.z z):(sc (.int k (.a (.z x)))).den ρ=.int k z:=by
 show AV.int k ((LE.a (.z x)).ev ρ)=_;rw[LE.aQ];show AV.int k (ρ x).zz=_;rw[h];rfl
theorem nK {k:IntKind}{K:SV->SS->R}{r:Int}(h:(fresh s (fun x s=>K (sc (.int k (.a (.z x)))) s)).Ok)(hk:Ok c T G Γ ρ s)(hl:bq c.P ops c.n0 c.nt i T c.hp c.nx G (.int k r)):Lo c T G Γ ops i s ρ K:=by
 obtain⟨h1,h2,h3,h4⟩:=aA h hk (.z r);exact Lo.fr h3 h1 (by rw[Re _ _ _ r h4];exact hl)
theorem IF {k:IntKind}{e:Option LE}{K:SV->SS->R}{r:Int}(h:(Lg s k e K).Ok)(hk:Ok c T G Γ ρ s)(he:∀e',e=some e'->r=k.wrap (e'.ev ρ))(hl:bq c.P ops c.n0 c.nt i T c.hp c.nx G (.int k r)):Lo c T G Γ ops i s ρ K:=by
 cases e with
 |none=>exact nK h hk hl
 |some e =>
  have h:((bif eE k&&CM s e then K (sc (.int k e)) s else fresh s fun x s=>K (sc (.int k (.a (.z x)))) s)).Ok:=h;cases hb:(eE k&&CM s e)with
  |false=>rw[hb]at h;exact nK h hk hl
  |true =>
   rw[hb]at h;rw[za]at hb;have:=dT hb.1;subst this;have hr:=he e rfl;rw[D8 hb.2 hk.sat]at hr;subst hr;exact Lo.here hk h hl
def dU (e:LE):Option Int:=bif e.ts.isEmpty then some e.c else none
theorem fX {e:LE}{k:Int}(h:dU e=some k)(ρ:aZ):e.ev ρ=k:=by
 unfold dU at h;cases hb:e.ts.isEmpty with
 |false=>rw[hb]at h;cases h
 |true=>rw[hb]at h;cases h;have:=List.isEmpty_iff.1 hb;unfold LE.ev;rw[this];simp[od]
def Vn (op:BinOp)(a b:LE):Option LE:=match op with
 |.add=>some (a.add b)
 |.sub=>some (a.sub b)
 |.mul=>match dU a with|some k=>some (b.nG k)|none=>(match dU b with|some k=>some (a.nG k)|none=>none)
 |_=>none
theorem OZ {op:BinOp}{a b e:LE}(h:Vn op a b=some e)(ρ:aZ):e.ev ρ=Ud op (a.ev ρ) (b.ev ρ):=by
 cases op<;>first|(cases h;done)|skip
 ·cases h;exact LE.ib ρ a b
 ·cases h;exact LE.aw ρ a b
 ·have h:(match dU a with|some k=>some (b.nG k)|none=>(match dU b with|some k=>some (a.nG k)|none=>none))=some e:=h;cases ha:dU a with
  |some k=>rw[ha]at h;cases h;rw[LE.iM,fX ha ρ];rfl
  |none =>
   rw[ha]at h;cases hb:dU b with
   |some k=>rw[hb]at h;cases h;rw[LE.iM,fX hb ρ];exact Int.mul_comm _ _
   |none=>rw[hb]at h;cases h
def Lh (op:BinOp)(a b:LE):BE:=match op with
 |.lss=>.ge ((b.sub a).bk (-1))
 |.leq=>.ge (b.sub a)
 |.gtr=>.ge ((a.sub b).bk (-1))
 |.geq=>.ge (a.sub b)
 |.eql=>.eq (a.sub b)
 |_=>.ne (a.sub b)
theorem Li {op:BinOp}(hr:oD op=true)(a b:LE)(ρ:aZ):(Lh op a b).ev ρ=K8 op (a.ev ρ) (b.ev ρ):=by
 cases op<;>first|(cases hr;done)|skip
 all_goals simp only[Lh,BE.ev,K8,LE.aO,LE.aw]
 all_goals first
  |(rw[zcv,decide_eq_true_eq,decide_eq_true_eq];omega)
  |(rw[zcv];simp only[zaj,decide_eq_true_eq,decide_eq_false_iff_not];omega)
def Rf (s:SS)(b:BE):BE:=match b with
 |.ge e=>(match dU e with|some k=>.k (!pe k)|none=>b)
 |.eq e=>(match dU e with|some k=>.k (nF k)|none=>b)
 |.ne e=>(match dU e with|some k=>.k (!nF k)|none=>b)
 |b=>b
theorem IG (b:BE)(ρ:aZ):(Rf s b).ev ρ=b.ev ρ:=by
 cases b with
 |ge e =>
  show ((match dU e with|some k=>BE.k (!pe k)|none=>.ge e)).ev ρ=_;cases h:dU e with
  |none=>rfl
  |some k =>
   simp only[BE.ev,fX h ρ];cases hn:pe k with
   |true=>have:=OQ hn;symm;exact decide_eq_false (by omega)
   |false=>have:=uC hn;symm;exact decide_eq_true (by omega)
 |eq e =>
  show ((match dU e with|some k=>BE.k (nF k)|none=>.eq e)).ev ρ=_;cases h:dU e with
  |none=>rfl
  |some k =>
   simp only[BE.ev,fX h ρ];cases hn:nF k with
   |true=>have:=ru hn;symm;exact decide_eq_true this
   |false=>have:=Cw hn;symm;exact decide_eq_false this
 |ne e =>
  show ((match dU e with|some k=>BE.k (!nF k)|none=>.ne e)).ev ρ=_;cases h:dU e with
  |none=>rfl
  |some k =>
   simp only[BE.ev,fX h ρ];cases hn:nF k with
   |true=>have:=ru hn;rw[decide_eq_true this]
   |false=>have:=Cw hn;rw[decide_eq_false this]
 |_=>rfl
def iT:SC->Option (Option (Nat×Nat))
 |.str _=>some none
 |.mF l m=>bif Nat.ble l jb then some (some (l,m))else none
 |_=>none
theorem eW {x:SC}{q:Option (Nat×Nat)}(h:iT x=some q)(ρ:aZ):∃l m,x.den ρ=.str l m/\∀p,q=some p->p=(l,m):=by
 cases x<;>first|(cases h;done)|skip
 ·cases h;exact⟨_,_,rfl,fun p hp=>(by cases hp)⟩
 ·rename_i l m;have h:(bif Nat.ble l jb then some (some (l,m))else none)=some q:=h;cases hb:Nat.ble l jb with
  |false=>rw[hb]at h;cases h
  |true=>rw[hb]at h;cases h;exact⟨_,_,rfl,fun p hp=>(Option.some.inj hp).symm⟩
theorem jC {x:SC}(h:(iT x).isSome=true){ρ:aZ}{l m:Nat}(e:x.den ρ=.str l m):l<=jb:=by
 cases x<;>first|(cases h;done)|skip
 ·cases e;exact U.Cu _
 ·cases e;have h:(bif Nat.ble l jb then some (some (l,m))else none).isSome=true:=h;cases hb:Nat.ble l jb with
  |false=>rw[hb]at h;cases h
  |true=>exact aK hb
def O0 (s:SS)(x:SC)(K:BE->SS->R):R:=match x with
 |.ab=>K (.k true) s|.dY=>K (.k true) s|.bg=>K (.k true) s
 |.cu _ _=>K (.k false) s
 |.cV _=>K (.k false) s
 |.ref y=>(match pI s.ty y with
  |some _=>K (.k false) s
  |none=>match BF s.ty y with
   |some _=>K (.k false) s
   |none=>match py s.ty y with
    |some _=>fresh s fun b s=>K (.v b) s
    |none=>.bad 20 s)
 |_=>.bad 21 s
def yo:TypeDesc->SC->Bool
 |.slice _,.ab=>true
 |.pointer _,.dY=>true
 |.map _ _,.bg=>true
 |_,_=>false
def uJ (s:SS):TypeDesc->SC->Bool
 |.slice _,.ab=>true
 |.slice _,.ref y=>(py s.ty y).isSome
 |.pointer _,.dY=>true
 |.pointer _,.cu _ _=>true
 |.pointer _,.ref y=>(pI s.ty y).isSome
 |.map _ _,.bg=>true
 |.map _ _,.ref y=>(BF s.ty y).isSome
 |.map _ _,.cV _=>true
 |_,_=>false
theorem Rh {y cc g:Nat}(hk:Ok c T G Γ ρ s)(h:py s.ty y=some (cc,g)):Vl (ρ y).vv:=by
 rcases (hk.ty (gE h)).form with ⟨h,_⟩|⟨b,o,cp,h⟩
 ·exact .inl h
 ·exact .inr ⟨b,o,_,cp,h⟩
theorem uK {y cc g:Nat}(hk:Ok c T G Γ ρ s)(h:pI s.ty y=some (cc,g)):∃b,(ρ y).vv=.cu b 0:=by
 obtain⟨b,L,h1,_⟩:=hk.ty (iN h);exact⟨b,h1⟩
theorem Np {y cc g:Nat}(hk:Ok c T G Γ ρ s)(h:BF s.ty y=some (cc,g)):∃b,(ρ y).vv=.cV b:=by
 obtain⟨b,h1,_⟩:=hk.ty (j9 h);exact⟨b,h1⟩
theorem A2 {dd:TypeDesc}{x y:SC}(hk:Ok c T G Γ ρ s)(h:(uJ s dd x&&yo dd y)=true):D4 dd (x.den ρ) (y.den ρ):=by
 rw[za]at h;obtain⟨h1,h2⟩:=h;cases dd<;>first|(cases h2;done)|skip
 ·cases y<;>first|(cases h2;done)|skip
  refine⟨?_,rfl⟩;cases x<;>first|(cases h1;done)|skip
  ·rename_i q;obtain⟨p,hp⟩:=Option.isSome_iff_exists.1 (show (pI s.ty q).isSome=true from h1);obtain⟨b,hb⟩:=uK (cc:=p.1) (g:=p.2) hk hp;exact .inr ⟨b,0,hb⟩
  ·exact .inl rfl
  ·exact .inr ⟨_,_,rfl⟩
 ·cases y<;>first|(cases h2;done)|skip
  refine⟨?_,rfl⟩;cases x<;>first|(cases h1;done)|skip
  ·rename_i q;obtain⟨p,hp⟩:=Option.isSome_iff_exists.1 (show (py s.ty q).isSome=true from h1);exact Rh (cc:=p.1) (g:=p.2) hk hp
  ·exact .inl rfl
 ·cases y<;>first|(cases h2;done)|skip
  refine⟨?_,rfl⟩;cases x<;>first|(cases h1;done)|skip
  ·rename_i q;obtain⟨p,hp⟩:=Option.isSome_iff_exists.1 (show (BF s.ty q).isSome=true from h1);obtain⟨b,hb⟩:=Np (cc:=p.1) (g:=p.2) hk hp;exact .inr ⟨b,hb⟩
  ·exact .inl rfl
  ·exact .inr ⟨_,rfl⟩
theorem D9 {x:SC}{K:BE->SS->R}(h:(O0 s x K).Ok)(hk:Ok c T G Γ ρ s):fI c T G Γ s ρ fun ρ' s'=>∃b,(K b s').Ok/\b.ev ρ'=nI (x.den ρ):=by
 cases x<;>first|(cases h;done)|skip
 case ref y =>
  have h:((match pI s.ty y with
   |some _=>K (.k false) s
   |none=>match BF s.ty y with
    |some _=>K (.k false) s
    |none=>match py s.ty y with
     |some _=>fresh s fun b s=>K (.v b) s
     |none=>.bad 20 s)).Ok:=h
  cases hp:pI s.ty y with
  |some p =>
   rw[hp]at h;obtain⟨b,hb⟩:=uK (cc:=p.1) (g:=p.2) hk hp;exact fI.here hk ⟨_,h,by simp only[BE.ev,SC.den,hb];rfl⟩
  |none =>
   rw[hp]at h;cases hm:BF s.ty y with
   |some p =>
    rw[hm]at h;obtain⟨b,hb⟩:=Np (cc:=p.1) (g:=p.2) hk hm;exact fI.here hk ⟨_,h,by simp only[BE.ev,SC.den,hb];rfl⟩
   |none =>
    rw[hm]at h;cases hs:py s.ty y with
    |none=>rw[hs]at h;cases h
    |some p =>
     rw[hs]at h;obtain⟨h1,h2,h3,h4⟩:=aA h hk (.b (nI (SC.den ρ (.ref y))));exact fI.mk h2 (zan _) h3 ⟨_,h1,by simp only[BE.ev];rw[h4];rfl⟩
 all_goals exact fI.here hk ⟨_,h,rfl⟩
def Uk (a b:SC)(op:BinOp):Option BE:=match a,b,op with
 |.str y,.mF 0 _,.eql=>some (.eq (.a (.sl y)))
 |.str y,.mF 0 _,.neq=>some (.ne (.a (.sl y)))
 |_,_,_=>none
theorem wH (l m m':Nat):aR l m 0 m'=decide ((l:Int)=0):=by
 cases l with
 |zero =>
  have h:∀x,jq 0 x=0:=fun x=>by show x%1=0;exact Nat.mod_one x
  unfold aR;rw[h,h];rfl
 |succ l =>
  have:Nat.beq (l+1) 0=false:=rfl;unfold aR;rw[this];simp;omega
def Ul (cf:Cf)(op:BinOp)(t:TypeId)(x y:SV)(s:SS)(K:SV->SS->R):R:=match x,y with
 |.v false [.int k a],.v false [.int k' b] =>
  bif gB k k'&&oD op then K (sc (.bool (Rf s (Lh op a b)))) s
  else bif gB k k'&&tg op then Lg s k (Vn op a b) K
  else (match op with
   |.quo=>bif gB k k' then (match dU b with
    |some q=>bif nF q then .bad 23 s else bif eE k&&(!pe q&&(bo s a&&(CM s a&&a.lt s.nx)))then fresh s fun x s=>K (sc (.int k (.a (.n x)))) (aP (aP s (a.sub ((LE.a (.n x)).nG q))) ((((LE.a (.n x)).nG q).bk (q-1)).sub a))else Lg s k none K
    |none=>.bad 24 s)else .bad 22 s
   |.and=>bif gB k k' then Lg s k none K else .bad 22 s
   |.or=>bif gB k k' then Lg s k none K else .bad 22 s
   |.xor=>bif gB k k' then Lg s k none K else .bad 22 s
   |.shl=>bif bo s b then Lg s k none K else .bad 25 s
   |.shr=>bif bo s b then Lg s k none K else .bad 25 s
   |_=>.bad 22 s)
 |.v false [a],.v false [b]=>(match iT a,iT b with
  |some p,some q=>bif oD op then (match p,q,op with
   |some p,some q,.eql=>K (sc (.bool (.k (aR p.1 p.2 q.1 q.2)))) s
   |some p,some q,.neq=>K (sc (.bool (.k (!aR p.1 p.2 q.1 q.2)))) s
   |_,_,_=>(match Uk a b op with
    |some be=>K (sc (.bool (Rf s be))) s
    |none=>fresh s fun x s=>K (sc (.bool (.v x))) s))else .bad 26 s
  |_,_=>match cf.P.underlying t with
   |some dd=>bif uJ s dd a&&yo dd b then (match op with
    |.eql=>O0 s a fun r s=>K (sc (.bool r)) s
    |.neq=>O0 s a fun r s=>K (sc (.bool r.not)) s
    |_=>.bad 27 s)else .bad 28 s
   |none=>.bad 29 s)
 |_,_=>.bad 30 s
theorem O3 {op:BinOp}{t yt:TypeId}{ox oy:Operand}{x y:SV}{K:SV->SS->R}(ho:(af ops i).op=.binOp op t ox oy yt)(hg:(af ops i).guard=none)(hP:cf.P=c.P)(h:(Ul cf op t x y s K).Ok)(hk:Ok c T G Γ ρ s)(hx:bH c.nt T ox (x.den ρ))(hy:bH c.nt T oy (y.den ρ)):Lo c T G Γ ops i s ρ K:=by
 unfold Ul at h;split at h
 ·rename_i k a k' b;have hx:bH c.nt T ox (.int k (a.ev ρ)):=hx;have hy:bH c.nt T oy (.int k' (b.ev ρ)):=hy;cases hr:(gB k k'&&oD op)with
  |true =>
   rw[hr]at h;rw[za]at hr;have hkk:k=k':=of_decide_eq_true hr.1;subst hkk;refine Lo.here hk h ?_;show bq _ _ _ _ _ _ _ _ _ (.bool ((Rf s (Lh op a b)).ev ρ));rw[IG,Li hr.2];exact bq.Ug hg ho hr.2 hx hy
  |false =>
   rw[hr]at h;cases ha:(gB k k'&&tg op)with
   |true =>
    rw[ha]at h;rw[za]at ha;have hkk:k=k':=of_decide_eq_true ha.1;subst hkk;exact IF h hk (fun e' he=>by rw[OZ he ρ]) (bq.V1 hg ho ha.2 hx hy)
   |false =>
    rw[ha]at h;simp only[cond_false]at h;split at h
    ·cases hkk:gB k k' with
     |false=>rw[hkk]at h;cases h
     |true =>
      rw[hkk]at h;have hkk:k=k':=of_decide_eq_true hkk;subst hkk;simp only[cond_true]at h;cases hc:dU b with
      |none=>rw[hc]at h;cases h
      |some q =>
       rw[hc]at h;simp only at h;cases hz:nF q with
       |true=>rw[hz]at h;cases h
       |false =>
        rw[hz]at h;simp only[cond_false]at h;have hq:=Cw hz;rw[fX hc ρ]at hy;obtain⟨r,hr1,_,hl⟩:=bq.Uh hg ho (.inl rfl) hq hx hy (P:=c.P) (n0:=c.n0) (hp:=c.hp) (nx:=c.nx) (G:=G);have hr1:=hr1 rfl;cases hb:(eE k&&(!pe q&&(bo s a&&(CM s a&&a.lt s.nx))))with
        |false=>rw[hb]at h;exact nK h hk hl
        |true =>
         rw[hb]at h;simp only[cond_true]at h;simp only[za,zaj]at hb;obtain⟨hb1,hb2,hb3,hb4,hb5⟩:=hb;have:=dT hb1;subst this;have hqp:=uC hb2;have rA:=ax hb3 hk.sat;have hpos:0<q:=by omega
         have hd1:(a.ev ρ).tdiv q=a.ev ρ/q:=Int.tdiv_eq_ediv_of_nonneg rA;have hd0:0<=a.ev ρ/q:=Int.ediv_nonneg rA hqp;have hd2:a.ev ρ/q<=a.ev ρ:=Int.ediv_le_self _ rA;have hfa:=D8 hb4 hk.sat
         have hfit:IntKind.i64.wrap (a.ev ρ/q)=a.ev ρ/q:=by
          rw[IntKind.wrap_i64]at hfa ⊢;omega
         rw[hr1,hd1,hfit]at hl;obtain⟨h1,h2,h3,h4⟩:=aA h hk (.n (a.ev ρ/q).toNat)
         have hx1:(LE.a (.n s.nx)).ev (ρ.up s.nx (.n (a.ev ρ/q).toNat))=a.ev ρ/q:=by
          rw[LE.aQ];show ((ρ.up s.nx (.n (a.ev ρ/q).toNat) s.nx).nn:Int)=_;rw[h4];show (((a.ev ρ/q).toNat:Nat):Int)=_;omega
         have hae:=LE.bG h2 hb5;have e1:=Int.mul_ediv_add_emod (a.ev ρ) q;have e2:=Int.emod_nonneg (a.ev ρ) hq;have e3:=Int.emod_lt_of_pos (a.ev ρ) hpos;refine fI.mk h2 (zan _) ((h3.aP ?_).aP ?_) ⟨_,h1,?_⟩
         ·rw[LE.aw,LE.iM,hx1,hae];omega
         ·rw[LE.aw,LE.aO,LE.iM,hx1,hae];omega
         ·show bq _ _ _ _ _ _ _ _ _ (.int .i64 ((LE.a (.n s.nx)).ev _));rw[hx1];exact hl
    ·cases hkk:gB k k' with
     |false=>rw[hkk]at h;cases h
     |true =>
      rw[hkk]at h;have hkk:k=k':=of_decide_eq_true hkk;subst hkk;obtain⟨r,hl⟩:=bq.OU hg ho (.inl rfl) hx hy (P:=c.P) (n0:=c.n0) (hp:=c.hp) (nx:=c.nx) (G:=G);exact nK h hk hl
    ·cases hkk:gB k k' with
     |false=>rw[hkk]at h;cases h
     |true =>
      rw[hkk]at h;have hkk:k=k':=of_decide_eq_true hkk;subst hkk;obtain⟨r,hl⟩:=bq.OU hg ho (.inr (.inl rfl)) hx hy (P:=c.P) (n0:=c.n0) (hp:=c.hp) (nx:=c.nx) (G:=G);exact nK h hk hl
    ·cases hkk:gB k k' with
     |false=>rw[hkk]at h;cases h
     |true =>
      rw[hkk]at h;have hkk:k=k':=of_decide_eq_true hkk;subst hkk;obtain⟨r,hl⟩:=bq.OU hg ho (.inr (.inr rfl)) hx hy (P:=c.P) (n0:=c.n0) (hp:=c.hp) (nx:=c.nx) (G:=G);exact nK h hk hl
    ·cases hb:bo s b with
     |false=>rw[hb]at h;cases h
     |true =>
      rw[hb]at h;obtain⟨r,hl⟩:=bq.Vm hg ho (.inl rfl) (ax hb hk.sat) hx hy (P:=c.P) (n0:=c.n0) (hp:=c.hp) (nx:=c.nx) (G:=G);exact nK h hk hl
    ·cases hb:bo s b with
     |false=>rw[hb]at h;cases h
     |true =>
      rw[hb]at h;obtain⟨r,hl⟩:=bq.Vm hg ho (.inr rfl) (ax hb hk.sat) hx hy (P:=c.P) (n0:=c.n0) (hp:=c.hp) (nx:=c.nx) (G:=G);exact nK h hk hl
    ·cases h
 ·rename_i a b hne;have hx:bH c.nt T ox (a.den ρ):=hx;have hy:bH c.nt T oy (b.den ρ):=hy;split at h
  ·rename_i p q hp hq;obtain⟨l,m,e1,p1⟩:=eW hp ρ;obtain⟨l',m',e2,p2⟩:=eW hq ρ;rw[e1]at hx;rw[e2]at hy;cases hr:oD op with
   |false=>rw[hr]at h;cases h
   |true =>
    rw[hr]at h;simp only[cond_true]at h;obtain⟨b',q1,q2,hl⟩:=bq.Ui hg ho hr hx hy (P:=c.P) (n0:=c.n0) (hp:=c.hp) (nx:=c.nx) (G:=G)
    have fin:((fresh s fun x s=>K (sc (.bool (.v x))) s)).Ok->Lo c T G Γ ops i s ρ K:=fun h=>by
     obtain⟨h1,h2,h3,h4⟩:=aA h hk (.b b');refine Lo.fr h3 h1 ?_;show bq _ _ _ _ _ _ _ _ _ (.bool ((BE.v s.nx).ev _));simp only[BE.ev];rw[h4];exact hl
    split at h
    ·rename_i p q;have:=p1 p rfl;subst this;have:=p2 q rfl;subst this;refine Lo.here hk h ?_;have:=q1 rfl;subst this;exact hl
    ·rename_i p q;have:=p1 p rfl;subst this;have:=p2 q rfl;subst this;refine Lo.here hk h ?_;have:=q2 rfl;subst this;exact hl
    ·cases he:Uk a b op with
     |none=>rw[he]at h;exact fin h
     |some be =>
      rw[he]at h;refine Lo.here hk h ?_;show bq _ _ _ _ _ _ _ _ _ (.bool ((Rf s be).ev ρ));rw[IG];have e1:a.den ρ=.str l m:=e1;have e2:b.den ρ=.str l' m':=e2;unfold Uk at he;split at he
      ·cases he;simp only[SC.den,AV.str.injEq]at e1 e2;have:=q1 rfl;rw[<-e2.1,<-e1.1,wH]at this;subst this;simp only[BE.ev,LE.aQ];exact hl
      ·cases he;simp only[SC.den,AV.str.injEq]at e1 e2;have:=q2 rfl;rw[<-e2.1,<-e1.1,wH]at this;subst this;simp only[BE.ev,LE.aQ];exact hl
      ·cases he
  ·split at h
   ·rename_i dd hu;rw[hP]at hu;cases hf:(uJ s dd a&&yo dd b)with
    |false=>rw[hf]at h;cases h
    |true =>
     rw[hf]at h;simp only[cond_true]at h;have hn:=A2 hk hf;split at h
     ·refine (D9 h hk).mono fun ρ' s' a1 n1 o1 hh=>?_;obtain⟨r,g1,g2⟩:=hh;refine⟨_,g1,?_⟩;show bq _ _ _ _ _ _ _ _ _ (.bool (r.ev ρ'));rw[g2];have:=bq.Nd (neq:=false) hg ho hu hx hy hn (P:=c.P) (n0:=c.n0) (hp:=c.hp) (nx:=c.nx) (G:=G);simpa using this
     ·refine (D9 h hk).mono fun ρ' s' a1 n1 o1 hh=>?_;obtain⟨r,g1,g2⟩:=hh;refine⟨_,g1,?_⟩;show bq _ _ _ _ _ _ _ _ _ (.bool (r.not.ev ρ'));rw[BE.Cz,g2];have:=bq.Nd (neq:=true) hg ho hu hx hy hn (P:=c.P) (n0:=c.n0) (hp:=c.hp) (nx:=c.nx) (G:=G);simpa using this
     ·cases h
   ·cases h
 ·cases h
end
end Go.Rd
