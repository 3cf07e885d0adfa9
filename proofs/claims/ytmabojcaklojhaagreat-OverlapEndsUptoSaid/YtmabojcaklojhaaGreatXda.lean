/- Part Xda of the proof of OverlapEnds: no condition. -/
import Derived.Test.YtmabojcaklojhaaGreatXad
set_option linter.unusedSimpArgs false
set_option linter.unusedVariables false
namespace Go.Rt
open Go.aK Go.RowKit
inductive K2 where
 |int (k:IntKind)|nat (b:Nat)|pos (b:Nat)|str|rf|vt (b:Nat)|bool|px (k:FloatKind)
 |sl (c:Nat)|AB (c b:Nat)|AD (c b:Nat)|yK (c b:Nat)|AE (c:Nat)
 |ptr (c:Nat)|FJ (c:Nat)|mp (c:Nat)|FL (c:Nat)|bad
inductive MV where|kd (k:K2)|unit|FM (b:Nat)|DD|kn (b:Nat) (k:K2)
structure Forms where
 ks:Nat->List K2
 ty:Nat->TypeId
 fV:Nat->Bool
 dep:Nat->Bool
 via:Nat->Bool
 pk:Nat->KK
 mv:Nat->MV
 raw:Nat->Bool
 im:Nat->Bool
structure Gd where
 n:Nat->Nat
 at_:Nat->Nat->Option Nat
 fl:Nat->Nat
 fz:Bool
 sub:Nat
def Gd.d0:Gd:=⟨fun _=>0,fun _ _=>none,fun _=>0,false,0⟩
structure Gd.Le (a b:Gd):Prop where
 n:∀k,a.n k<=b.n k
 at_:∀l m j,a.at_ l m=some j->b.at_ l m=some j
 fz:a.fz=true->b=a
 sub:b.sub=a.sub
theorem Gd.Le.refl (a:Gd):a.Le a:=⟨fun _=>zad _,fun _ _ _ h=>h,fun _=>rfl,rfl⟩
theorem Gd.Le.trans {a b c:Gd}(h:a.Le b)(h':b.Le c):a.Le c:=⟨fun k=>zay (h.n k) (h'.n k),fun l m j e=>h'.at_ l m j (h.at_ l m j e),fun e=>by have:=h.fz e;subst this;exact h'.fz e,h'.sub.trans h.sub⟩
def WU:Nat:=2097152
def ma:Nat:=2147483648
def kC:Nat:=1099511627776
def gi (Φ:Forms)(d:Gd)(g c:Nat):Nat:=bif Φ.via c then d.sub else bif Φ.dep c then g else 0
inductive TF where
 |sl (v:AV) (c g:Nat) (ns:List Nat)
 |pt (v:AV) (c g:Nat)
 |mp (v:AV) (c g:Nat)
  |el (v:AV) (c j off:Nat) (x:AV)
def TF.v:TF->AV|.sl v _ _ _=>v|.pt v _ _=>v|.mp v _ _=>v|.el v _ _ _ _=>v
def sw (Φ:Forms):TF->Nat
 |.sl _ c _ ns=>bif Φ.fV c then 0 else ns.sum+ns.length
 |_=>0
def jj (Φ:Forms)(fs:List TF):Nat:=(fs.map (sw Φ)).sum
theorem iI (Φ:Forms)(a b:List TF):jj Φ (a++b)=jj Φ a+jj Φ b:=by simp[jj]
def Kv (Φ:Forms)(d:Gd)(g j:Nat):K2->AV->List TF->Prop
 |.int k,v,f=>(∃z,v=.int k z)/\f=[]
 |.nat b,v,f=>(∃n:Nat,v=.int .i64 (.ofNat n)/\n<d.n b)/\f=[]
 |.pos b,v,f=>(∃n:Nat,v=.int .i64 (.ofNat n)/\1<=n/\n<=d.n b)/\f=[]
 |.str,v,f=>(∃l n,v=.str l n/\l<=kC)/\f=[]
 |.rf,v,f=>(∃l n,v=.str l n/\l<=kC/\d.at_ l n=some j)/\f=[]
 |.vt b,v,f=>(∃l n,v=.str l n/\l<=kC/\l<=b)/\f=[]
 |.bool,v,f=>(∃b,v=.bool b)/\f=[]
 |.px k,v,f=>(∃b,v=.float k b)/\f=[]
 |.sl c,v,f=>∃ns,f=[.sl v c (gi Φ d g c) ns]
 |.AB c b,v,f=>∃ns:List Nat,f=[.sl v c (gi Φ d g c) ns]/\ns.length<=b
 |.AD c b,v,f=>∃ns:List Nat,f=[.sl v c (gi Φ d g c) ns]/\ns.length<=d.n b
 |.yK c b,v,f=>∃ns:List Nat,f=[.sl v c (gi Φ d g c) ns]/\d.fz=true/\ns.length=d.n b
 |.AE c,v,f=>∃ns:List Nat,f=[.sl v c (gi Φ d g c) ns]/\d.fz=true/\ns.length=d.fl j
 |.ptr c,v,f=>f=[.pt v c (gi Φ d g c)]
 |.FJ c,v,f=>(v=.c7/\f=[])∨f=[.pt v c (gi Φ d g c)]
 |.mp c,v,f=>f=[.mp v c (gi Φ d g c)]
 |.FL c,v,f=>(v=.bg/\f=[])∨f=[.mp v c (gi Φ d g c)]
 |.bad,_,_=>False
def iz (Φ:Forms)(d:Gd)(g j:Nat):List K2->List AV->List TF->Prop
 | [],cs,fs=>cs=[]/\fs=[]
 |k::ks,cs,fs=>∃v cs' f fs',cs=v::cs'/\fs=f++fs'/\Kv Φ d g j k v f/\iz Φ d g j ks cs' fs'
theorem ss {Φ:Forms}{d d':Gd}(h:d.Le d')(g c:Nat):gi Φ d' g c=gi Φ d g c:=by unfold gi;rw[h.sub]
theorem Kv.le {Φ:Forms}{d d':Gd}{g j:Nat}(h:d.Le d'){k:K2}{v:AV}{f:List TF}(hk:Kv Φ d g j k v f):Kv Φ d' g j k v f:=by
 cases k with
 |nat b=>obtain⟨⟨n,h1,h2⟩,h3⟩:=hk;exact⟨⟨n,h1,zbj h2 (h.n b)⟩,h3⟩
 |pos b=>obtain⟨⟨n,h1,h0,h2⟩,h3⟩:=hk;exact⟨⟨n,h1,h0,zay h2 (h.n b)⟩,h3⟩
 |rf=>obtain⟨⟨l,n,h1,h0,h2⟩,h3⟩:=hk;exact⟨⟨l,n,h1,h0,h.at_ _ _ _ h2⟩,h3⟩
 |sl c=>obtain⟨ns,h1⟩:=hk;exact⟨ns,by rw[ss h];exact h1⟩
 |AB c b=>obtain⟨ns,h1,h2⟩:=hk;exact⟨ns,by rw[ss h];exact h1,h2⟩
 |AD c b=>obtain⟨ns,h1,h2⟩:=hk;exact⟨ns,by rw[ss h];exact h1,zay h2 (h.n b)⟩
 |yK c b=>obtain⟨ns,h1,h2,h3⟩:=hk;have:=h.fz h2;subst this;exact⟨ns,h1,h2,h3⟩
 |AE c=>obtain⟨ns,h1,h2,h3⟩:=hk;have:=h.fz h2;subst this;exact⟨ns,h1,h2,h3⟩
 |ptr c=>show f=_;rw[ss h];exact hk
 |FJ c=>rcases hk with hk|hk
        ·exact .inl hk
        ·exact .inr (by rw[ss h];exact hk)
 |mp c=>show f=_;rw[ss h];exact hk
 |FL c=>rcases hk with hk|hk
        ·exact .inl hk
        ·exact .inr (by rw[ss h];exact hk)
 |bad=>exact hk.elim
 |int k=>exact hk
 |str=>exact hk
 |vt b=>exact hk
 |bool=>exact hk
 |px k=>exact hk
theorem iz.le {Φ:Forms}{d d':Gd}{g j:Nat}(h:d.Le d'):∀{ks:List K2}{cs:List AV}{fs:List TF},iz Φ d g j ks cs fs->iz Φ d' g j ks cs fs
 | [],_,_,hk=>hk
 |k::ks,_,_,⟨v,cs',f,fs',h1,h2,h3,h4⟩=>⟨v,cs',f,fs',h1,h2,h3.le h,iz.le h h4⟩
theorem iz.len {Φ:Forms}{d:Gd}{g j:Nat}:∀{ks:List K2}{cs:List AV}{fs:List TF},iz Φ d g j ks cs fs->cs.length=ks.length
 | [],_,_,⟨h,_⟩=>by subst h;rfl
 |k::ks,_,_,⟨v,cs',f,fs',h1,h2,h3,h4⟩=>by subst h1;simp[iz.len h4]
theorem iz.split {Φ:Forms}{d:Gd}{g j:Nat}:∀{ks ks':List K2}{cs:List AV}{fs:List TF},iz Φ d g j (ks++ks') cs fs->∃f1 f2,fs=f1++f2/\iz Φ d g j ks (cs.take ks.length) f1/\iz Φ d g j ks' (cs.drop ks.length) f2
 | [],ks',cs,fs,h=>⟨[],fs,rfl,⟨by simp,rfl⟩,by simpa using h⟩
 |k::ks,ks',_,_,⟨v,cs',f,fs',h1,h2,h3,h4⟩=>by
  subst h1 h2;obtain⟨f1,f2,e1,e2,e3⟩:=iz.split h4;exact⟨f++f1,f2,by rw[e1,zbd],⟨v,_,f,f1,rfl,rfl,h3,e2⟩,e3⟩
theorem iz.join {Φ:Forms}{d:Gd}{g j:Nat}:∀{ks ks':List K2}{cs cs':List AV}{fs fs':List TF},iz Φ d g j ks cs fs->iz Φ d g j ks' cs' fs'->iz Φ d g j (ks++ks') (cs++cs') (fs++fs')
 | [],ks',_,cs',_,fs',⟨h1,h2⟩,h=>by subst h1 h2;exact h
 |k::ks,ks',_,cs',_,fs',⟨v,cs1,f,fs1,h1,h2,h3,h4⟩,h=>by
  subst h1 h2;exact⟨v,_,f,_,rfl,by rw[zbd],h3,iz.join h4 h⟩
mutual
inductive xT (P:Program) (Φ:Forms) (G:GH):Nat->Nat->List AV->Prop where
 |mk {m c:Nat} {cs:List AV} (fs:List TF) (h:∀j,iz Φ Gd.d0 0 j (Φ.ks c) cs fs) (hw:jj Φ fs=m) (hg:∀v c' g' ns,.sl v c' g' ns∈fs->g'=0) (hl:∀v c' g' ns,.sl v c' g' ns∈fs->ns.length<=ma) (hf:∀v c' g' ns,.sl v c' g' ns∈fs->om P Φ G v c' ns) (hn:∀v c' g',.pt v c' g'∉fs/\.mp v c' g'∉fs):xT P Φ G m c cs
inductive om (P:Program) (Φ:Forms) (G:GH):AV->Nat->List Nat->Prop where
 |nil {c:Nat}:om P Φ G .ab c []
 |emp {c b o cp:Nat} (hu:Φ.fV c=false):om P Φ G (.dx b o 0 cp) c []
 |aY {b o cap size c:Nat} {el:TypeId} {C:List AV} {ns:List Nat} (hb:G b=some (.cells .raw el size C)) (hu:Φ.fV c=false) (hl:o+ns.length*af P (Φ.ty c)<=C.length)
  (h:∀(j m:Nat),ns[j]?=some m->xT P Φ G m c ((C.drop (o+j*af P (Φ.ty c))).take (af P (Φ.ty c)))):om P Φ G (.dx b o ns.length cap) c ns
end
structure dQ (G G':GH):Prop where
 raw:∀b el size C,G b=some (.cells .raw el size C)->G' b=G b
 V0:∀b el size C,G b=some (.cells .data el size C)->∃C',G' b=some (.cells .data el size C')
theorem dQ.refl (G:GH):dQ G G:=⟨fun _ _ _ _ _=>rfl,fun _ _ _ C h=>⟨C,h⟩⟩
mutual
theorem xT.le {P:Program}{Φ:Forms}{G G':GH}(hg:dQ G G'):∀{m c:Nat}{cs:List AV},xT P Φ G m c cs->xT P Φ G' m c cs
 |_,_,_,.mk fs h hw h0 hl hf hn=>.mk fs h hw h0 hl (fun v c' g' ns hm=>(hf v c' g' ns hm).le hg) hn
theorem om.le {P:Program}{Φ:Forms}{G G':GH}(hg:dQ G G'):∀{v:AV}{c:Nat}{ns:List Nat},om P Φ G v c ns->om P Φ G' v c ns
 |_,_,_,.nil=>.nil
 |_,_,_,.emp hu=>.emp hu
 |_,_,_,.aY hb hu hl h=>.aY (by rw[hg.raw _ _ _ _ hb];exact hb) hu hl fun j m hj=>(h j m hj).le hg
end
inductive Ds where
 |cells (c g:Nat) (L:List Nat)
 |map (c g:Nat)
structure dI where
 m:Nat->Option Ds
 gd:Nat->Gd
 ng:Nat
def fF (P:Program)(Φ:Forms)(G:GH)(Γ:dI):TF->Prop
 |.sl v c g ns=>ns.length<=ma/\((v=.ab/\ns=[])∨(g=0/\om P Φ G v c ns)∨∃b cap L size C,v=.dx b 0 ns.length cap/\Γ.m b=some (.cells c g L)/\ns=L.take ns.length/\G b=some (.cells .data (Φ.ty c) size C)/\cap*af P (Φ.ty c)<=size/\ns.length<=cap)
 |.pt v c g=>∃b L,v=.bZ b 0/\Γ.m b=some (.cells c g L)/\0<L.length
 |.mp v c g=>∃b,v=.cV b/\Γ.m b=some (.map c g)
 |.el v c j off x=>∃b o l cap el size C,v=.dx b o l cap/\j<l/\G b=some (.cells .raw el size C)/\o+l*af P (Φ.ty c)<=C.length/\off<af P (Φ.ty c)/\C[o+j*af P (Φ.ty c)+off]?=some x
def eY (P:Program)(Φ:Forms)(G:GH)(Γ:dI)(m c g j:Nat)(cs:List AV):Prop:=∃fs,iz Φ (Γ.gd g) g j (Φ.ks c) cs fs/\jj Φ fs<=m/\∀f∈fs,fF P Φ G Γ f
def uC (N:Nat):AV->Prop
 |.int _ n=>0<=n/\n<N
 |.agg [.int _ a,.int _ b]=>(0<=a/\a<N)/\0<=b/\b<N
 |_=>False
theorem uC.le {N N':Nat}(h:N<=N'){v:AV}(hk:uC N v):uC N' v:=by
 unfold uC at hk ⊢;split at hk
 ·exact⟨hk.1,Int.lt_of_lt_of_le hk.2 (Int.ofNat_le.2 h)⟩
 ·exact⟨⟨hk.1.1,Int.lt_of_lt_of_le hk.1.2 (Int.ofNat_le.2 h)⟩,hk.2.1,Int.lt_of_lt_of_le hk.2.2 (Int.ofNat_le.2 h)⟩
 ·exact hk.elim
def SH (es:List (AV×AV)):Prop:=es.Pairwise fun p q=>aZ p.1 q.1=false
def dA (P:Program)(Φ:Forms)(G:GH)(Γ:dI)(c g:Nat)(es:List (AV×AV)):Prop :=
 (∀p∈es,de (Φ.pk c) p.1)/\match Φ.mv c with
 |.kd k=>∀p∈es,∃fs,Kv Φ (Γ.gd g) g 0 k p.2 fs/\∀f∈fs,fF P Φ G Γ f
 |.unit=>∀p∈es,p.2=.agg []
 |.FM b=>Φ.pk c=.str/\(Γ.gd g).fz=true/\(∀l n,cn (.str l n) es=((Γ.gd g).at_ l n).map fun j=>.int .i64 (.ofNat j))/\∀l n j,(Γ.gd g).at_ l n=some j->j<(Γ.gd g).n b
 |.kn b k=>(∀p∈es,uC ((Γ.gd g).n b) p.1)/\∀p∈es,∃fs,Kv Φ (Γ.gd g) g 0 k p.2 fs/\∀f∈fs,fF P Φ G Γ f
 |.DD=>Φ.pk c=.pair/\(Γ.gd g).fz=true/\(∀l n l' n',aR l n l' n'=true->(Γ.gd g).at_ l n=(Γ.gd g).at_ l' n')/\∀p∈es,∃l n l' n' k j,p.1=.agg [.str l n,.str l' n']/\p.2=.int .i64 (.ofNat k)/\(Γ.gd g).fz=true/\(Γ.gd g).at_ l n=some j/\k<(Γ.gd g).fl j
def uD (P:Program)(Φ:Forms)(G:GH)(Γ:dI)(b:Nat):Ds->Prop
 |.cells c g L=>(g<Γ.ng/\Φ.raw c=false)/\(Φ.fV c=true->∀m∈L,m=WU)/\∃size C,G b=some (.cells .data (Φ.ty c) size C)/\C.length=L.length*af P (Φ.ty c)/\∀j m,L[j]?=some m->eY P Φ G Γ m c g j ((C.drop (j*af P (Φ.ty c))).take (af P (Φ.ty c)))
 |.map c g=>g<Γ.ng/\∃es,G b=some (.map es)/\(∀p∈es,nf p.2)/\dA P Φ G Γ c g es
structure HT (P:Program) (Φ:Forms) (G:GH) (Γ:dI):Prop where
 z:Γ.gd 0=Gd.d0/\0<Γ.ng
 b:∀b x,Γ.m b=some x->uD P Φ G Γ b x
def oq:Ds->Ds->Prop
 |.cells c g L,.cells c' g' L'=>c'=c/\g'=g/\∃M,L'=L++M
 |.map c g,.map c' g'=>c'=c/\g'=g
 |_,_=>False
theorem oq.refl (x:Ds):oq x x:=by cases x with
 |cells c g L=>exact⟨rfl,rfl,[],by simp⟩
 |map c g=>exact⟨rfl,rfl⟩
theorem oq.trans {x y z:Ds}(h:oq x y)(h':oq y z):oq x z:=by
 cases x with
 |cells c g L=>cases y with
  |cells c1 g1 L1=>cases z with
   |cells c2 g2 L2=>obtain⟨rfl,rfl,M,rfl⟩:=h;obtain⟨rfl,rfl,M',rfl⟩:=h';exact⟨rfl,rfl,M++M',by rw[zbd]⟩
   |map=>exact h'.elim
  |map=>exact h.elim
 |map c g=>cases y with
  |cells=>exact h.elim
  |map c1 g1=>cases z with
   |cells=>exact h'.elim
   |map=>obtain⟨rfl,rfl⟩:=h;exact h'
structure dV (Γ Γ':dI):Prop where
 m:∀b x,Γ.m b=some x->∃y,Γ'.m b=some y/\oq x y
 gd:∀g,g<Γ.ng->(Γ.gd g).Le (Γ'.gd g)
 ng:Γ.ng<=Γ'.ng
theorem dV.refl (Γ:dI):dV Γ Γ:=⟨fun b x h=>⟨x,h,oq.refl x⟩,fun g _=>Gd.Le.refl _,zad _⟩
theorem dV.trans {Γ1 Γ2 Γ3:dI}(h:dV Γ1 Γ2)(h':dV Γ2 Γ3):dV Γ1 Γ3:=⟨fun b x hb=>by
 obtain⟨y,h1,h2⟩:=h.m _ _ hb;obtain⟨z,h3,h4⟩:=h'.m _ _ h1
 exact⟨z,h3,h2.trans h4⟩,fun g hg=>(h.gd g hg).trans (h'.gd g (zbj hg h.ng)),zay h.ng h'.ng⟩
theorem dV.cells {Γ Γ':dI}(h:dV Γ Γ'){b c g:Nat}{L:List Nat}(hb:Γ.m b=some (.cells c g L)):∃M,Γ'.m b=some (.cells c g (L++M)):=by
 obtain⟨y,h1,h2⟩:=h.m _ _ hb;cases y with
 |cells c' g' L'=>obtain⟨rfl,rfl,M,rfl⟩:=h2;exact⟨M,h1⟩
 |map=>exact h2.elim
theorem dV.map {Γ Γ':dI}(h:dV Γ Γ'){b c g:Nat}(hb:Γ.m b=some (.map c g)):Γ'.m b=some (.map c g):=by
 obtain⟨y,h1,h2⟩:=h.m _ _ hb;cases y with
 |cells=>exact h2.elim
 |map c' g'=>obtain⟨rfl,rfl⟩:=h2;exact h1
theorem fF.le {P:Program}{Φ:Forms}{G G':GH}{Γ Γ':dI}{f:TF}(h:fF P Φ G Γ f)(hg:dQ G G')(hl:dV Γ Γ'):fF P Φ G' Γ' f:=by
 cases f with
 |sl v c g ns =>
  obtain⟨hlim,h⟩:=h;refine⟨hlim,?_⟩;rcases h with h|⟨h0,h⟩|⟨b,cap,L,size,C,h1,h2,h3,h5,h6⟩
  ·exact .inl h
  ·exact .inr (.inl ⟨h0,h.le hg⟩)
  ·obtain⟨M,h4⟩:=hl.cells h2;obtain⟨C',h5⟩:=hg.V0 _ _ _ _ h5;refine .inr (.inr ⟨b,cap,L++M,size,C',h1,h4,?_,h5,h6⟩)
   have:ns.length<=L.length:=by
    have:=congrArg List.length h3;rw[zag]at this;omega
   rw[zco this];exact h3
 |pt v c g =>
  obtain⟨b,L,h1,h2,h3⟩:=h;obtain⟨M,h4⟩:=hl.cells h2;exact⟨b,L++M,h1,h4,by rw[zak];omega⟩
 |mp v c g =>
  obtain⟨b,h1,h2⟩:=h;exact⟨b,h1,hl.map h2⟩
 |el v c j off x =>
  obtain⟨b,o,l,cap,el,size,C,h1,h2,h3,h4⟩:=h;exact⟨b,o,l,cap,el,size,C,h1,h2,by rw[hg.raw _ _ _ _ h3];exact h3,h4⟩
theorem eY.le {P:Program}{Φ:Forms}{G G':GH}{Γ Γ':dI}{m c g j:Nat}{cs:List AV}(h:eY P Φ G Γ m c g j cs)(hg:dQ G G')(hl:dV Γ Γ')(hlt:g<Γ.ng):eY P Φ G' Γ' m c g j cs:=by
 obtain⟨fs,h1,h2,h3⟩:=h;exact⟨fs,h1.le (hl.gd g hlt),h2,fun f hf=>(h3 f hf).le hg hl⟩
theorem eY.more {P:Program}{Φ:Forms}{G:GH}{Γ:dI}{m m' c g j:Nat}{cs:List AV}(h:eY P Φ G Γ m c g j cs)(hm:m<=m'):eY P Φ G Γ m' c g j cs:=by
 obtain⟨fs,h1,h2,h3⟩:=h;exact⟨fs,h1,by omega,h3⟩
theorem Kv.HM {Φ:Forms}{d:Gd}{g j:Nat}{k:K2}{v:AV}{f:List TF}(h:Kv Φ d g j k v f)(u:AV)(c i o:Nat)(x:AV):TF.el u c i o x∉f:=by
 have no:∀y:TF,(∀u c i o x,y≠.el u c i o x)->f=[y]->TF.el u c i o x∉f:=fun y hy e hm=>by
  rw[e]at hm;exact hy _ _ _ _ _ (List.mem_singleton.1 hm).symm
 cases k with
 |sl c=>obtain⟨ns,h⟩:=h;exact no _ (fun _ _ _ _ _ e=>by cases e) h
 |AB c b=>obtain⟨ns,h,_⟩:=h;exact no _ (fun _ _ _ _ _ e=>by cases e) h
 |AD c b=>obtain⟨ns,h,_⟩:=h;exact no _ (fun _ _ _ _ _ e=>by cases e) h
 |yK c b=>obtain⟨ns,h,_⟩:=h;exact no _ (fun _ _ _ _ _ e=>by cases e) h
 |AE c=>obtain⟨ns,h,_⟩:=h;exact no _ (fun _ _ _ _ _ e=>by cases e) h
 |ptr c=>exact no _ (fun _ _ _ _ _ e=>by cases e) h
 |mp c=>exact no _ (fun _ _ _ _ _ e=>by cases e) h
 |FJ c=>rcases h with ⟨_,h⟩|h
        ·rw[h];exact fun h=>by cases h
        ·exact no _ (fun _ _ _ _ _ e=>by cases e) h
 |FL c=>rcases h with ⟨_,h⟩|h
        ·rw[h];exact fun h=>by cases h
        ·exact no _ (fun _ _ _ _ _ e=>by cases e) h
 |bad=>exact h.elim
 |_=>rw[h.2];exact fun h=>by cases h
theorem iz.HM {Φ:Forms}{d:Gd}{g j:Nat}(u:AV)(c i o:Nat)(x:AV):∀{ks:List K2}{cs:List AV}{fs:List TF},iz Φ d g j ks cs fs->TF.el u c i o x∉fs
 | [],_,_,⟨_,h⟩=>by rw[h];exact fun h=>by cases h
 |k::ks,_,_,⟨v,cs',f,fs',h1,h2,h3,h4⟩=>by
  subst h1 h2;intro hm;rcases List.mem_append.1 hm with hm|hm
  ·exact h3.HM u c i o x hm
  ·exact iz.HM u c i o x h4 hm
theorem xT.el {P:Program}{Φ:Forms}{G:GH}{Γ:dI}{m c:Nat}{cs:List AV}(h:xT P Φ G m c cs)(hz:Γ.gd 0=Gd.d0)(j:Nat):eY P Φ G Γ m c 0 j cs:=by
 cases h with
 |mk fs h hw h0 hl hf hn =>
  refine⟨fs,by rw[hz];exact h j,zea hw,fun f hm=>?_⟩;cases f with
  |sl v c' g' ns=>exact⟨hl v c' g' ns hm,.inr (.inl ⟨h0 v c' g' ns hm,hf v c' g' ns hm⟩)⟩
  |pt v c' g'=>exact absurd hm (hn v c' g').1
  |mp v c' g'=>exact absurd hm (hn v c' g').2
  |el v c' i o x=>exact absurd hm ((h 0).HM v c' i o x)
theorem xT.elE {P:Program}{Φ:Forms}{G:GH}{Γ:dI}{m c:Nat}{cs:List AV}(h:xT P Φ G m c cs)(hz:Γ.gd 0=Gd.d0)(j:Nat):∃fs,iz Φ (Γ.gd 0) 0 j (Φ.ks c) cs fs/\jj Φ fs=m/\∀f∈fs,fF P Φ G Γ f:=by
 cases h with
 |mk fs h hw h0 hl hf hn =>
  refine⟨fs,by rw[hz];exact h j,hw,fun f hm=>?_⟩;cases f with
  |sl v c' g' ns=>exact⟨hl v c' g' ns hm,.inr (.inl ⟨h0 v c' g' ns hm,hf v c' g' ns hm⟩)⟩
  |pt v c' g'=>exact absurd hm (hn v c' g').1
  |mp v c' g'=>exact absurd hm (hn v c' g').2
  |el v c' i o x=>exact absurd hm ((h 0).HM v c' i o x)
theorem jK {α:Type}{ns L:List α}(h:ns=L.take ns.length):ns.length<=L.length:=by
 have:=congrArg List.length h;rw[zag]at this;omega
theorem fF.atE {P:Program}{Φ:Forms}{G:GH}{Γ:dI}{v:AV}{c g:Nat}{ns:List Nat}{j m:Nat}(h:fF P Φ G Γ (.sl v c g ns))(ht:HT P Φ G Γ)(hj:ns[j]?=some m) :
  ∃b o cap kd el size C,v=.dx b o ns.length cap/\G b=some (.cells kd el size C)/\o+j*af P (Φ.ty c)+af P (Φ.ty c)<=C.length/\eY P Φ G Γ m c g j ((C.drop (o+j*af P (Φ.ty c))).take (af P (Φ.ty c))) /\
   (Φ.raw c=true->∃fs,iz Φ (Γ.gd g) g j (Φ.ks c) ((C.drop (o+j*af P (Φ.ty c))).take (af P (Φ.ty c))) fs/\jj Φ fs=m/\∀f∈fs,fF P Φ G Γ f):=by
 have hlt:j<ns.length:=(List.getElem?_eq_some_iff.1 hj).1
 have hmul:∀n,j<n->j*af P (Φ.ty c)+af P (Φ.ty c)<=n*af P (Φ.ty c):=fun n hn=>by
  have:(j+1)*af P (Φ.ty c)<=n*af P (Φ.ty c):=zae _ hn;rwa[zau]at this
 obtain⟨hlim,h⟩:=h;rcases h with ⟨_,h⟩|⟨h0,h⟩|⟨b,cap,L,size0,C0,h1,h2,h3,_⟩
 ·rw[h]at hj;simp at hj
 ·subst h0;cases h with
  |nil=>simp at hj
  |emp hu=>simp at hj
  |@aY b o cap size _ el C _ hb hu hl h =>
   have:=hmul ns.length hlt;exact⟨b,o,cap,.raw,el,size,C,rfl,hb,by omega,(h j m hj).el ht.z.1 j,fun _=>(h j m hj).elE ht.z.1 j⟩
 ·obtain⟨⟨_,hr⟩,_,size,C,q1,q2,q3⟩:=ht.b _ _ h2;have hle:=jK h3
  have hL:L[j]?=some m:=by
   rw[h3,zck]at hj;rw[if_pos hlt]at hj;exact hj
  refine⟨b,0,cap,.data,Φ.ty c,size,C,h1,q1,?_,?_,fun h=>by rw[hr]at h;cases h⟩
  ·have:=hmul L.length (by omega);rw[q2];omega
  ·rw[zap];exact q3 j m hL
theorem fF.deref {P:Program}{Φ:Forms}{G:GH}{Γ:dI}{v:AV}{c g:Nat}(h:fF P Φ G Γ (.pt v c g))(ht:HT P Φ G Γ):∃b L m size C,v=.bZ b 0/\Γ.m b=some (.cells c g L)/\L[0]?=some m/\G b=some (.cells .data (Φ.ty c) size C)/\C.length=L.length*af P (Φ.ty c)/\af P (Φ.ty c)<=C.length/\eY P Φ G Γ m c g 0 (C.take (af P (Φ.ty c))):=by
 obtain⟨b,L,h1,h2,h3⟩:=h;obtain⟨_,_,size,C,q1,q2,q3⟩:=ht.b _ _ h2;have hL:L[0]?=some L[0]:=zaj h3;have:=q3 0 _ hL;rw[zbw,zca]at this;have hmul:1*af P (Φ.ty c)<=L.length*af P (Φ.ty c):=zae _ h3;exact⟨b,L,_,size,C,h1,h2,hL,q1,q2,by omega,this⟩
theorem fF.form {P:Program}{Φ:Forms}{G:GH}{Γ:dI}{v:AV}{c g:Nat}{ns:List Nat}(h:fF P Φ G Γ (.sl v c g ns)):(v=.ab/\ns=[])∨∃b o cp,v=.dx b o ns.length cp:=by
 obtain⟨hlim,h⟩:=h;rcases h with h|⟨h0,h⟩|⟨b,cap,L,size0,C0,h1,_⟩
 ·exact .inl h
 ·cases h with
  |nil=>exact .inl ⟨rfl,rfl⟩
  |emp hu=>exact .inr ⟨_,_,_,rfl⟩
  |aY hb hu hl h=>exact .inr ⟨_,_,_,rfl⟩
 ·exact .inr ⟨b,0,cap,h1⟩
inductive Own where
  |loc (b:Nat) (el:TypeId) (C:List AV)
  |jg (v:AV) (c:Nat) (ms:List Nat)
  |map (b:Nat) (pk:KK) (es:List (AV×AV))
  |ul (v:AV) (c g n:Nat)
  |am (b g k:Nat)
  |im (b k:Nat)
  |bl (v:AV) (el:TypeId) (ms:List Nat)
  |km (b c g n:Nat)
  |kq (b c g n:Nat) (q:Option (AV×Option AV))
  |rm (v:AV) (c g n:Nat)
  |it (b:Nat) (m:AV) (n r:Nat) (st ty:Bool)
def SI:AV->Option (Option Nat)
 |.bg=>some none
 |.cV b=>some (some b)
 |_=>none
def left (n:Nat)(seen:List Nat):Nat:=((List.range n).filter fun j=>!seen.contains j).length
def JQ:MV->Bool
 |.kd _=>true
 |.unit=>true
 |.kn _ _=>true
 |_=>false
def su:AV->Option Nat
 |.dx b _ _ _=>some b
 |_=>none
def Own.aY:Own->Option Nat
 |.loc b _ _=>some b
 |.jg v _ _=>su v
 |.map b _ _=>some b
 |.ul v _ _ _=>su v
 |.am b _ _=>some b
 |.im b _=>some b
 |.bl v _ _=>su v
 |.km b _ _ _=>some b
 |.kq b _ _ _ _=>some b
 |.rm _ _ _ _=>none
 |.it b _ _ _ _ _=>some b
def Own.Tq:Own->Bool
 |.it _ _ _ _ _ ty=>ty
 |_=>false
def Own.inst:Own->Option Nat
 |.am _ g _=>some g
 |_=>none
def eV (os:List Own):List Nat:=os.filterMap Own.aY
def df (P:Program)(Φ:Forms)(G:GH)(Γ:dI):Own->Prop
 |.loc b el C=>G b=some (.cells .loc el C.length C)/\Γ.m b=none
 |.jg v c ms=>Φ.fV c=false/\ms.length<=ma/\((v=.ab/\ms=[])∨∃b cap size C,v=.dx b 0 ms.length cap/\Γ.m b=some (.cells c 0 ms)/\G b=some (.cells .data (Φ.ty c) size C)/\cap*af P (Φ.ty c)<=size/\ms.length<=cap)
 |.map b pk es=>G b=some (.map es)/\Γ.m b=none/\∀p∈es,de pk p.1
 |.ul v c g n=>g<Γ.ng/\n<=ma/\((v=.ab/\n=0)∨∃b cap size C,v=.dx b 0 n cap/\Γ.m b=none/\G b=some (.cells .data (Φ.ty c) size C)/\C.length=n*af P (Φ.ty c)/\cap*af P (Φ.ty c)<=size/\n<=cap/\∀j,j<n->eY P Φ G Γ WU c g j ((C.drop (j*af P (Φ.ty c))).take (af P (Φ.ty c))))
 |.am b g k=>Γ.m b=none/\g<Γ.ng/\(∀l n j,(Γ.gd g).at_ l n=some j->j<(Γ.gd g).n k)/\∃es,G b=some (.map es)/\(∀p∈es,de .str p.1/\nf p.2)/\∀l n,cn (.str l n) es=((Γ.gd g).at_ l n).map fun j=>.int .i64 (.ofNat j)
 |.im b k=>Γ.m b=none/\∃es,G b=some (.map es)/\∀p∈es,de .str p.1/\∃n:Nat,p.2=.int .i64 (.ofNat n)/\n<k
 |.bl v el ms=>ms.length<=ma/\(∀m∈ms,m<=1)/\∃b size,v=.dx b 0 ms.length ms.length/\Γ.m b=none/\G b=some (.cells .data el size (ms.map fun m=>.bool (Nat.beq m 0)))
 |.km b c g n=>Γ.m b=none/\g<Γ.ng/\JQ (Φ.mv c)=true/\∃es,G b=some (.map es)/\es.length=n/\(∀p∈es,nf p.2)/\dA P Φ G Γ c g es
 |.kq b c g n q=>Γ.m b=none/\g<Γ.ng/\JQ (Φ.mv c)=true/\∃es,G b=some (.map es)/\es.length=n/\(∀p∈es,nf p.2)/\dA P Φ G Γ c g es/\SH es/\∀k r,q=some (k,r)->de (Φ.pk c) k/\cn k es=r
 |.rm v c g n=>Φ.im c=true/\∃b es,v=.cV b/\Γ.m b=some (.map c g)/\G b=some (.map es)/\es.length=n
 |.it b m n r st ty=>Γ.m b=none/\(∃mo seen,SI m=some mo/\G b=some (.iter mo n seen)/\left n seen=r/\(mo=none->n=0)/\(st=true->∃l j,seen=l++[j]/\j<n))/\(ty=true->∀mb,m=.cV mb->∃c g es,Γ.m mb=some (.map c g)/\G mb=some (.map es)/\es.length=n)
def Ds.fixed (Φ:Forms):Ds->Bool
 |.cells c _ _=>!Φ.fV c
 |.map c _=>Φ.im c
structure Rl (Φ:Forms) (S Sg:List Nat) (G:GH) (Γ:dI) (G':GH) (Γ':dI):Prop where
 g:∀b,(G b).isSome=true->b∉S->Γ.m b=none->G' b=G b/\Γ'.m b=none
 r:dQ G G'
 t:∀b x,Γ.m b=some x->x.fixed Φ=true->b∉S->Γ'.m b=some x
 le:dV Γ Γ'
 gs:∀g,g<Γ.ng->g∉Sg->Γ'.gd g=Γ.gd g
 SJ:∀b,(G b).isSome=true->(G' b).isSome=true
 im:∀b c g,Γ.m b=some (.map c g)->Φ.im c=true->G' b=G b
theorem Rl.refl (Φ:Forms)(S Sg:List Nat)(G:GH)(Γ:dI):Rl Φ S Sg G Γ G Γ:=⟨fun _ _ _ h=>⟨rfl,h⟩,dQ.refl _,fun _ _ h _ _=>h,dV.refl _,fun _ _ _=>rfl,fun _ h=>h,fun _ _ _ _ _=>rfl⟩
theorem uD.told {P:Program}{Φ:Forms}{G:GH}{Γ:dI}{b:Nat}{x:Ds}(h:uD P Φ G Γ b x):(G b).isSome=true:=by
 cases x with
 |cells c g L=>obtain⟨_,_,size,C,h,_⟩:=h;rw[h];rfl
 |map c g=>obtain⟨_,es,h,_⟩:=h;rw[h];rfl
theorem Rl.trans {Φ:Forms}{P:Program}{S S1 Sg Sg1:List Nat}{G G1 G2:GH}{Γ Γ1 Γ2:dI}(ht:∀b x,Γ.m b=some x->(G b).isSome=true)(h:Rl Φ S Sg G Γ G1 Γ1)(h':Rl Φ S1 Sg1 G1 Γ1 G2 Γ2)(hs:∀b∈S1,b∈S∨G b=none)(hg:∀g∈Sg1,g∈Sg∨Γ.ng<=g):Rl Φ S Sg G Γ G2 Γ2:=by
 have no:∀b,(G b).isSome=true->b∉S->b∉S1:=fun b hb hn hm=>(hs b hm).elim hn fun e=>by rw[e]at hb;cases hb
 refine⟨fun b hb hn h0=>?_,⟨fun b el size C hb=>?_,fun b el size C hb=>?_⟩,fun b x hx hu hn=>?_,h.le.trans h'.le,fun g hlt hn=>?_,fun b hb=>h'.SJ b (h.SJ b hb),fun b c g hb hi=>(h'.im b c g (h.le.map hb) hi).trans (h.im b c g hb hi)⟩
 ·obtain⟨e1,e2⟩:=h.g b hb hn h0;obtain⟨e3,e4⟩:=h'.g b (h.SJ b hb) (no b hb hn) e2;exact⟨e3.trans e1,e4⟩
 ·have:=h.r.raw b el size C hb;rw[h'.r.raw b el size C (by rw[this];exact hb),this]
 ·obtain⟨C1,h1⟩:=h.r.V0 b el size C hb;exact h'.r.V0 b el size C1 h1
 ·exact h'.t b x (h.t b x hx hu hn) hu (no b (ht b x hx) hn)
 ·rw[h'.gs g (zbj hlt h.le.ng) (fun hm=>(hg g hm).elim hn fun e=>absurd hlt (by omega)),h.gs g hlt hn]
theorem dA.Gw {P:Program}{Φ:Forms}{G G':GH}{Γ Γ':dI}{cc g:Nat}{es:List (AV×AV)}(hk:JQ (Φ.mv cc)=true)(h:dA P Φ G Γ cc g es)(hr:dQ G G')(hl:dV Γ Γ')(hg:g<Γ.ng):dA P Φ G' Γ' cc g es:=by
 unfold dA at h ⊢;refine⟨h.1,?_⟩;have h:=h.2;cases hm:Φ.mv cc with
 |kd k =>
  rw[hm]at h;intro p hp;obtain⟨fs,k1,k2⟩:=h p hp;exact⟨fs,k1.le (hl.gd g hg),fun f hf=>(k2 f hf).le hr hl⟩
 |unit=>rw[hm]at h;exact h
 |FM b=>rw[hm]at hk;cases hk
 |DD=>rw[hm]at hk;cases hk
 |kn b k =>
  rw[hm]at h;refine⟨fun p hp=>(h.1 p hp).le ((hl.gd g hg).n b),fun p hp=>?_⟩;obtain⟨fs,k1,k2⟩:=h.2 p hp;exact⟨fs,k1.le (hl.gd g hg),fun f hf=>(k2 f hf).le hr hl⟩
theorem df.aU {P:Program}{Φ:Forms}{S Sg:List Nat}{G G':GH}{Γ Γ':dI}{o:Own}(h:df P Φ G Γ o)(hr:Rl Φ S Sg G Γ G' Γ')(hn:∀b,o.aY=some b->b∉S)(hi:∀g,o.inst=some g->Γ'.gd g=Γ.gd g)(hp:o.Tq=true->∀b c g,Γ.m b=some (.map c g)->G' b=G b):df P Φ G' Γ' o:=by
 cases o with
 |loc b el C =>
  obtain⟨h,h0⟩:G b=_/\Γ.m b=none:=h;obtain⟨e1,e2⟩:=hr.g b (by rw[h];rfl) (hn b rfl) h0;exact⟨by rw[e1];exact h,e2⟩
 |map b pk es =>
  obtain⟨h,h0,hk⟩:G b=_/\Γ.m b=none/\_:=h;obtain⟨e1,e2⟩:=hr.g b (by rw[h];rfl) (hn b rfl) h0;exact⟨by rw[e1];exact h,e2,hk⟩
 |jg v c ms =>
  obtain⟨hu,hlim,h⟩:=h;refine⟨hu,hlim,?_⟩;rcases h with h|⟨b,cap,size,C,h1,h2,h3,h4⟩
  ·exact .inl h
  ·have hb:b∉S:=hn b (by rw[h1];rfl);obtain⟨C',hC'⟩:=hr.r.V0 b _ _ _ h3;exact .inr ⟨b,cap,size,C',h1,hr.t b _ h2 (by simp[Ds.fixed,hu]) hb,hC',h4⟩
 |ul v c g n =>
  obtain⟨hg,hlim,h⟩:=h;refine⟨zbj hg hr.le.ng,hlim,?_⟩;rcases h with h|⟨b,cap,size,C,h1,h2,h3,h4,h5,h6,h7⟩
  ·exact .inl h
  ·obtain⟨e1,e2⟩:=hr.g b (by rw[h3];rfl) (hn b (by rw[h1];rfl)) h2;exact .inr ⟨b,cap,size,C,h1,e2,by rw[e1];exact h3,h4,h5,h6,fun j hj=>(h7 j hj).le hr.r hr.le hg⟩
 |am b g k =>
  obtain⟨h0,hg,hk,es,h1,h2,h3⟩:=h;obtain⟨e1,e2⟩:=hr.g b (by rw[h1];rfl) (hn b rfl) h0;have e3:=hi g rfl;exact⟨e2,zbj hg hr.le.ng,by rw[e3];exact hk,es,by rw[e1];exact h1,h2,by rw[e3];exact h3⟩
 |im b k =>
  obtain⟨h0,es,h1,h2⟩:=h;obtain⟨e1,e2⟩:=hr.g b (by rw[h1];rfl) (hn b rfl) h0;exact⟨e2,es,by rw[e1];exact h1,h2⟩
 |bl v el ms =>
  obtain⟨hlim,hm,b,size,h1,h2,h3⟩:=h;obtain⟨e1,e2⟩:=hr.g b (by rw[h3];rfl) (hn b (by rw[h1];rfl)) h2;exact⟨hlim,hm,b,size,h1,e2,by rw[e1];exact h3⟩
 |km b c g n =>
  obtain⟨h0,hg,hk,es,h1,h2,h3,h4⟩:=h;obtain⟨e1,e2⟩:=hr.g b (by rw[h1];rfl) (hn b rfl) h0;exact⟨e2,zbj hg hr.le.ng,hk,es,by rw[e1];exact h1,h2,h3,h4.Gw hk hr.r hr.le hg⟩
 |kq b c g n q =>
  obtain⟨h0,hg,hk,es,h1,h2,h3,h4,h5⟩:=h;obtain⟨e1,e2⟩:=hr.g b (by rw[h1];rfl) (hn b rfl) h0;exact⟨e2,zbj hg hr.le.ng,hk,es,by rw[e1];exact h1,h2,h3,h4.Gw hk hr.r hr.le hg,h5⟩
 |rm v c g n =>
  obtain⟨hi,b,es,h1,h2,h3,h4⟩:=h;exact⟨hi,b,es,h1,hr.le.map h2,by rw[hr.im b c g h2 hi];exact h3,h4⟩
 |it b m n r st ty =>
  obtain⟨h0,⟨mo,seen,h1,h2,h3⟩,h4⟩:=h;obtain⟨e1,e2⟩:=hr.g b (by rw[h2];rfl) (hn b rfl) h0;refine⟨e2,⟨mo,seen,h1,by rw[e1];exact h2,h3⟩,fun ht mb hm=>?_⟩;obtain⟨c,g,es,q1,q3,q4⟩:=h4 ht mb hm;exact⟨c,g,es,hr.le.map q1,by rw[hp ht mb c g q1];exact q3,q4⟩
def lk:List (Nat×AV)->Nat->Option AV
 | [],_=>none
 |p::l,k=>bif Nat.beq p.1 k then some p.2 else lk l k
structure St where
 L:List (Nat×AV)
 os:List Own
 eF:List TF
 gs:List (Nat×Gd×Bool)
structure Cx where
 P:Program
 Φ:Forms
 n0:Nat
 nt:Nat
 S:List Nat
 Sg:List Nat
 G0:GH
 Γ0:dI
structure Q (c:Cx) (T:Tm) (G:GH) (Γ:dI) (st:St):Prop where
 ml:T.ml=[]
 at_:∀k v,lk st.L k=some v->T.at k=v
 xU:∀b x,c.Γ0.m b=some x->(c.G0 b).isSome=true
 rl:Rl c.Φ c.S c.Sg c.G0 c.Γ0 G Γ
 grow:oj c.n0 c.G0 G
 own:∀o∈st.os,df c.P c.Φ G Γ o
 new:∀o∈st.os,∀b,o.aY=some b->b∈c.S∨c.G0 b=none
 nd:(eV st.os).Nodup
 ht:HT c.P c.Φ G Γ
 ty:∀f∈st.eF,fF c.P c.Φ G Γ f
 gs:∀p∈st.gs,p.1<Γ.ng/\Γ.gd p.1=p.2.1/\(p.2.2=true->(p.1∈c.Sg∨c.Γ0.ng<=p.1)/\p.2.1.fz=false/\0<p.1)
def St.put (st:St)(d:Nat)(v:AV):St:=⟨(d,v)::st.L,st.os,st.eF,st.gs⟩
section
variable {c:Cx}{ops:Array Oper}{lig ce ch:List Nat}{i m d f:Nat}{T:Tm}{G:GH}{Γ:dI}{st st':St}{v:AV}{K:Ex->St->Prop}{Kd:St->Prop}{co:Code}
theorem KF (k:Nat)(p:Nat×AV)(l:List (Nat×AV)):lk (p::l) k=if p.1=k then some p.2 else lk l k:=by
 show (bif Nat.beq p.1 k then some p.2 else lk l k)=_;by_cases h:p.1=k
 ·subst h;simp
 ·rw[if_neg h];cases hb:Nat.beq p.1 k with
  |true=>exact absurd (zab hb) h
  |false=>rfl
theorem Q.put (h:Q c T G Γ st)(d:Nat)(v:AV):Q c (T.put d v) G Γ (st.put d v):=by
 refine⟨by rw[Tm.tF];exact h.ml,fun k u hk=>?_,h.xU,h.rl,h.grow,h.own,h.new,h.nd,h.ht,h.ty,h.gs⟩;rw[show (st.put d v).L=(d,v)::st.L from rfl,KF]at hk;by_cases e:d=k
 ·subst e;rw[if_pos rfl]at hk;rw[Tm.gP];exact Option.some.inj hk
 ·rw[if_neg e]at hk;rw[Tm.jw (fun h=>e h.symm)];exact h.at_ k u hk
theorem Q.iW (h:Q c T G Γ st)(h1:∀k v,lk st'.L k=some v->lk st.L k=some v)(h2:∃rest,st.os.Perm (st'.os++rest))(h3:∀f∈st'.eF,f∈st.eF)(h4:∀p∈st'.gs,p∈st.gs):Q c T G Γ st':=by
 obtain⟨rest,hp⟩:=h2;have hm:∀o∈st'.os,o∈st.os:=fun o ho=>hp.mem_iff.2 (by simp[ho]);refine⟨h.ml,fun k v hk=>h.at_ k v (h1 k v hk),h.xU,h.rl,h.grow,fun o ho=>h.own o (hm o ho),fun o ho=>h.new o (hm o ho),?_,h.ht,fun f hf=>h.ty f (h3 f hf),fun p hp=>h.gs p (h4 p hp)⟩;have:=(hp.filterMap Own.aY).nodup_iff.1 h.nd;rw[zdd,List.nodup_append]at this;exact this.1
end
end Go.Rt
namespace Go.Rd
open Go.aK Go.RowKit Go.Rt
inductive U where
 |n (x:Nat)|z (x:Int)|b (x:Bool)|s (l m:Nat)|v (x:AV) (ns:List Nat)|g (d:Gd)
def U.nn:U->Nat|.n x=>x|_=>0
def U.zz:U->Int|.z x=>x|_=>0
def U.bb:U->Bool|.b x=>x|_=>false
def U.sl:U->Nat|.s l _=>bif Nat.ble l kC then l else 0|_=>0
theorem U.oF {l m:Nat}(h:l<=kC):(U.s l m).sl=l:=by show (bif Nat.ble l kC then l else 0)=l;rw[zbs h];rfl
theorem U.Cm (u:U):u.sl<=kC:=by
 cases u with
 |s l m =>
  show (bif Nat.ble l kC then l else 0)<=kC;cases h:Nat.ble l kC with
  |true=>exact aN h
  |false=>exact zbo _
 |_=>exact zbo _
def U.sm:U->Nat|.s _ m=>m|_=>0
def cD:AV->Bool
 |.ab=>true|.dx _ _ _ _=>true|.c7=>true|.bZ _ _=>true|.bg=>true|.cV _=>true
 |_=>false
def U.vv:U->AV|.v x _=>bif cD x then x else .ab|_=>.ab
theorem U.rh (u:U):cD u.vv=true:=by
 cases u with
 |v x l =>
  show cD (bif cD x then x else .ab)=true;cases h:cD x with
  |true=>exact h
  |false=>rfl
 |_=>rfl
theorem U.j6 {x:AV}{l:List Nat}(h:cD x=true):(U.v x l).vv=x:=by show (bif cD x then x else .ab)=x;rw[h];rfl
def U.ns:U->List Nat|.v _ l=>bif Nat.ble l.length ma then l else []|_=>[]
theorem U.lr {x:AV}{l:List Nat}(h:l.length<=ma):(U.v x l).ns=l:=by show (bif Nat.ble l.length ma then l else [])=l;rw[zbs h];rfl
theorem U.Cn (u:U):u.ns.length<=ma:=by
 cases u with
 |v x l =>
  show (bif Nat.ble l.length ma then l else []).length<=ma;cases h:Nat.ble l.length ma with
  |true=>exact aN h
  |false=>exact zbo _
 |_=>exact zbo _
def U.gg:U->Gd|.g d=>d|_=>Gd.d0
 abbrev bm:=Nat->U
def dh (k:Nat)(ρ ρ':bm):Prop:=∀i,i<k->ρ' i=ρ i
theorem dh.refl (k:Nat)(ρ:bm):dh k ρ ρ:=fun _ _=>rfl
theorem dh.trans {k k':Nat}{ρ ρ' ρ2:bm}(h:dh k ρ ρ')(h':dh k' ρ' ρ2)(hk:k<=k'):dh k ρ ρ2:=fun i hi=>(h' i (by omega)).trans (h i hi)
def bm.up (ρ:bm)(k:Nat)(u:U):bm:=fun i=>if i=k then u else ρ i
theorem HN (ρ:bm)(k:Nat)(u:U):dh k ρ (ρ.up k u):=fun i hi=>by unfold bm.up;rw[if_neg (by omega)]
theorem dt (ρ:bm)(k:Nat)(u:U):ρ.up k u k=u:=by simp[bm.up]
inductive At where
 |n (k:Nat)|z (k:Nat)|len (k:Nat)|wt (k:Nat)|sl (k:Nat)|gn (k b:Nat)
def At.key:At->Nat
 |.n k=>Nat.mul k 8
 |.z k=>Nat.add (Nat.mul k 8) 1
 |.len k=>Nat.add (Nat.mul k 8) 2
 |.wt k=>Nat.add (Nat.mul k 8) 3
 |.sl k=>Nat.add (Nat.mul k 8) 4
 |.gn k _=>Nat.add (Nat.mul k 8) 5
def At.sec:At->Nat|.gn _ b=>b|_=>0
def At.beq (a b:At):Bool:=bif Nat.beq a.key b.key then Nat.beq a.sec b.sec else false
theorem At.aj {a b:At}(h:a.beq b=true):a=b:=by
 unfold At.beq at h;cases hb:Nat.beq a.key b.key with
 |false=>rw[hb]at h;cases h
 |true =>
  rw[hb]at h;have h1:=zab hb;have h2:=zab (show Nat.beq a.sec b.sec=true from h);cases a<;>cases b<;>simp only[At.key,At.sec,Nat.mul_eq,Nat.add_eq]at h1 h2<;>first|(exfalso;omega)|(congr 1;omega)|(congr 1<;>omega)
def At.id:At->Nat|.n k=>k|.z k=>k|.len k=>k|.wt k=>k|.sl k=>k|.gn k _=>k
def At.ev (ρ:bm):At->Int
 |.n k=>(ρ k).nn
 |.z k=>(ρ k).zz
 |.len k=>(ρ k).ns.length
 |.wt k=>((ρ k).ns.sum+(ρ k).ns.length:Nat)
 |.sl k=>(ρ k).sl
 |.gn k b=>(ρ k).gg.n b
def At.nat:At->Bool|.z _=>false|_=>true
theorem At.PZ {a:At}(h:a.nat=true)(ρ:bm):0<=a.ev ρ:=by cases a<;>first|(simp[At.nat]at h;done)|(simp[At.ev];try omega)
theorem At.cg {a:At}{k:Nat}{ρ ρ':bm}(h:dh k ρ ρ')(ha:a.id<k):a.ev ρ'=a.ev ρ:=by cases a<;>simp only[At.ev,At.id]at ha ⊢<;>rw[h _ ha]
structure LE where
 c:Int
 ts:List (Int×At)
def ot (ρ:bm):List (Int×At)->Int
 | []=>0
 |p::l=>p.1*p.2.ev ρ+ot ρ l
def LE.ev (ρ:bm)(e:LE):Int:=e.c+ot ρ e.ts
def nD:Int->Bool|.ofNat _=>false|.negSucc _=>true
def mc:Int->Bool|.ofNat n=>Nat.beq n 0|.negSucc _=>false
theorem ri {x:Int}(h:nD x=false):0<=x:=by cases x with|ofNat n=>exact zdj n|negSucc n=>cases h
theorem P0 {x:Int}(h:nD x=true):x<0:=by cases x with|ofNat n=>cases h|negSucc n=>omega
theorem rj {x:Int}(h:mc x=true):x=0:=by cases x with|ofNat n=>have:=zab h;subst this;rfl|negSucc n=>cases h
theorem xV {x:Int}(h:mc x=false):x≠0:=by rintro rfl;cases h
def HO (k:Int)(a:At):List (Int×At)->List (Int×At)
 | []=>bif mc k then []else [(k,a)]
 |p::ts=>bif a.beq p.2 then (bif mc (k+p.1)then ts else (k+p.1,a)::ts)else p::HO k a ts
theorem DE (ρ:bm)(k:Int)(a:At):∀ts,ot ρ (HO k a ts)=k*a.ev ρ+ot ρ ts
 | []=>by
   unfold HO;cases h:mc k with
   |true=>rw[rj h];simp[ot]
   |false=>simp[ot]
 |p::ts=>by
  unfold HO;cases hb:a.beq p.2 with
  |true =>
   have:=At.aj hb;subst this;cases h:mc (k+p.1)with
   |true =>
    have:=rj h;have e:k=-p.1:=by omega
    subst e;simp only[cond_true,ot];rw[Int.neg_mul];omega
   |false=>simp only[cond_true,cond_false,ot,Int.add_mul];omega
  |false=>simp only[cond_false,ot];rw[DE ρ k a ts];omega
def AF:List (Int×At)->List (Int×At)->List (Int×At)
 | [],ys=>ys
 |p::xs,ys=>HO p.1 p.2 (AF xs ys)
theorem AG (ρ:bm):∀xs ys,ot ρ (AF xs ys)=ot ρ xs+ot ρ ys
 | [],ys=>by simp[AF,ot]
 |p::xs,ys=>by rw[AF,DE,AG ρ xs ys,ot];omega
def KG (k:Int)(ts:List (Int×At)):List (Int×At):=ts.map fun p=>(k*p.1,p.2)
theorem DF (ρ:bm)(k:Int):∀ts,ot ρ (KG k ts)=k*ot ρ ts
 | []=>by simp[KG,ot]
 |p::ts=>by
  have:=DF ρ k ts;show k*p.1*p.2.ev ρ+ot ρ (KG k ts)=k*(p.1*p.2.ev ρ+ot ρ ts);rw[this,Int.mul_add,Int.mul_assoc]
def LE.add (x y:LE):LE:=⟨x.c+y.c,AF x.ts y.ts⟩
def LE.js (k:Int)(x:LE):LE:=⟨k*x.c,KG k x.ts⟩
def LE.sub (x y:LE):LE:=x.add (y.js (-1))
def LE.k (c:Int):LE:=⟨c,[]⟩
def LE.a (a:At):LE:=⟨0,[(1,a)]⟩
def LE.aO (x:LE)(c:Int):LE:=⟨x.c+c,x.ts⟩
theorem LE.ij (ρ:bm)(x y:LE):(x.add y).ev ρ=x.ev ρ+y.ev ρ:=by simp only[LE.ev,LE.add,AG];omega
theorem LE.fJ (ρ:bm)(k:Int)(x:LE):(x.js k).ev ρ=k*x.ev ρ:=by simp only[LE.ev,LE.js,DF,Int.mul_add]
theorem LE.au (ρ:bm)(x y:LE):(x.sub y).ev ρ=x.ev ρ-y.ev ρ:=by simp only[LE.sub,LE.ij,LE.fJ];omega
theorem LE.bk (ρ:bm)(c:Int):(LE.k c).ev ρ=c:=by simp[LE.ev,LE.k,ot]
theorem LE.aV (ρ:bm)(a:At):(LE.a a).ev ρ=a.ev ρ:=by simp[LE.ev,LE.a,ot]
theorem LE.aE (ρ:bm)(x:LE)(c:Int):(x.aO c).ev ρ=x.ev ρ+c:=by simp only[LE.ev,LE.aO];omega
def LE.lt (n:Nat)(e:LE):Bool:=e.ts.all fun p=>Nat.blt p.2.id n
theorem DG {k:Nat}{ρ ρ':bm}(h:dh k ρ ρ'):∀{ts:List (Int×At)},(ts.all fun p=>Nat.blt p.2.id k)=true->ot ρ' ts=ot ρ ts
 | [],_=>rfl
 |p::ts,ht=>by
  rw[zdv,za]at ht;rw[ot,ot,DG h ht.2,At.cg h (ax ht.1)]
theorem LE.cg {k:Nat}{ρ ρ':bm}(h:dh k ρ ρ'){e:LE}(he:e.lt k=true):e.ev ρ'=e.ev ρ:=by unfold LE.ev;rw[DG h he]
def LE.same (x y:LE):Bool:=let d:=x.sub y;mc d.c&&d.ts.isEmpty
theorem LE.bc {x y:LE}(h:x.same y=true)(ρ:bm):x.ev ρ=y.ev ρ:=by
 unfold LE.same at h;rw[za]at h;have h1:=rj h.1;have h2:(x.sub y).ts=[]:=List.isEmpty_iff.1 h.2;have:=LE.au ρ x y;have h3:(x.sub y).ev ρ=0:=by unfold LE.ev;rw[h1,h2];rfl
 omega
def FN:List (Int×At)->Bool
 | []=>false
 |p::ts=>(nD p.1||!p.2.nat)||FN ts
theorem xW:∀{ts:List (Int×At)},FN ts=false->∀ρ,0<=ot ρ ts
 | [],_,ρ=>by simp[ot]
 |p::ts,h,ρ=>by
  unfold FN at h;rw[Bool.or_eq_false_iff,Bool.or_eq_false_iff,Bool.not_eq_false']at h;obtain⟨⟨h1,h2⟩,h3⟩:=h;have h1:=ri h1;have h2:=At.PZ h2 ρ;have h3:=xW h3 ρ;have:=Int.mul_nonneg h1 h2;rw[ot];omega
inductive Cs where|f (q k i:Nat)|Bt (q k x:Nat)|lw (q k x:Nat)|ls (q k x:Nat)
def Ts (k:Nat):LE:=⟨ma,[(-1,.len k)]⟩
def M0 (k:Nat):LE:=⟨0,[(1,.wt k),(-1,.len k)]⟩
def Tt (k:Nat):LE:=⟨kC,[(-1,.sl k)]⟩
def oG (g f:LE)(q k:Nat):LE:=bif Nat.beq q 1&&Nat.beq k 1 then g.sub f else (g.js q).sub (f.js k)
def KH:List LE->Nat->Option LE
 | [],_=>none
 |f::l,i=>bif Nat.beq i 0 then some f else KH l (Nat.pred i)
theorem AH:∀{l:List LE}{i:Nat}{f:LE},KH l i=some f->f∈l
 | [],_,_,h=>by cases h
 |x::l,i,f,h=>by
  unfold KH at h;cases hb:Nat.beq i 0 with
  |true=>rw[hb]at h;cases h;exact zac ..
  |false=>rw[hb]at h;exact zaa _ (AH h)
def Cs.fact (fs:List LE):Cs->Option LE|.f _ _ i=>KH fs i|.Bt _ _ x=>some (Ts x)|.lw _ _ x=>some (M0 x)|.ls _ _ x=>some (Tt x)
def Cs.q:Cs->Nat|.f q _ _=>q|.Bt q _ _=>q|.lw q _ _=>q|.ls q _ _=>q
def Cs.k:Cs->Nat|.f _ k _=>k|.Bt _ k _=>k|.lw _ k _=>k|.ls _ k _=>k
def Ay (fs:List LE):List Cs->LE->Bool
 | [],g=>bif nD g.c then false else !FN g.ts
 |x::l,g=>match x.fact fs with
  |some f=>bif Nat.beq x.q 0 then false else Ay fs l (oG g f x.q x.k)
  |none=>false
theorem HP {g f:LE}{q k:Nat}{ρ:bm}(hq:Nat.beq q 0=false)(hf:0<=f.ev ρ)(h:0<=(oG g f q k).ev ρ):0<=g.ev ρ:=by
 unfold oG at h;have h0:q≠0:=fun e=>by subst e;cases hq
 have hk:0<=(k:Int)*f.ev ρ:=Int.mul_nonneg (zdj _) hf;cases hb:(Nat.beq q 1&&Nat.beq k 1)with
 |true=>rw[hb,cond_true,LE.au]at h;omega
 |false =>
  rw[hb,cond_false,LE.au,LE.fJ,LE.fJ]at h;have hqq:(0:Int)<(q:Int):=by omega
  rcases Int.lt_or_le (g.ev ρ) 0 with hlt|hge
  ·have:=Int.mul_neg_of_pos_of_neg hqq hlt;omega
  ·exact hge
theorem HQ {fs:List LE}{ρ:bm}(hfs:∀f∈fs,0<=f.ev ρ):∀{l:List Cs}{g:LE},Ay fs l g=true->0<=g.ev ρ
 | [],g,h=>by
   unfold Ay at h;cases hc:nD g.c with
   |true=>rw[hc]at h;cases h
   |false =>
    rw[hc,cond_false,zam]at h;have h1:=ri hc;have h2:=xW h ρ;unfold LE.ev;omega
 |x::l,g,h=>by
  unfold Ay at h;split at h
  ·rename_i f hf;cases hq:Nat.beq x.q 0 with
   |true=>rw[hq]at h;cases h
   |false =>
    rw[hq]at h;refine HP hq ?_ (HQ hfs h);cases x with
    |f q k i=>exact hfs f (AH hf)
    |Bt q k y =>
     cases hf;have:=U.Cn (ρ y);simp only[Ts,LE.ev,ot,At.ev];omega
    |lw q k y =>
     cases hf;simp only[M0,LE.ev,ot,At.ev];omega
    |ls q k y =>
     cases hf;have:=U.Cm (ρ y);simp only[Tt,LE.ev,ot,At.ev];omega
  ·cases h
def At.ps:At->Nat
 |.n k=>Nat.mul k 8
 |.sl k=>Nat.add (Nat.mul k 8) 7
 |.z k=>Nat.add (Nat.mul k 8) 1
 |.wt k=>Nat.add (Nat.mul k 8) 2
 |.len k=>Nat.add (Nat.mul k 8) 3
 |.gn k b=>Nat.add (Nat.mul k 8) (Nat.add 4 b)
def SK:List (Int×At)->Nat
 | []=>0
 |p::l=>match p.1 with|.ofNat k=>Nat.add (SK l) (Nat.shiftLeft k (Nat.mul 64 p.2.ps))|.negSucc _=>SK l
def SL:List (Int×At)->Nat
 | []=>0
 |p::l=>match p.1 with|.ofNat _=>SL l|.negSucc k=>Nat.add (SL l) (Nat.shiftLeft (Nat.succ k) (Nat.mul 64 p.2.ps))
def WB (n:Nat):Nat:=Nat.shiftLeft (Nat.div (Nat.sub (Nat.pow 2 (Nat.mul 512 n)) 1) 18446744073709551615) 63
def WC (n:Nat):Nat:=Nat.shiftLeft (Nat.div (Nat.sub (Nat.pow 2 (Nat.mul 512 n)) 1) (Nat.sub (Nat.pow 2 512) 1)) 127
structure Pk where
 i:Nat
 p:Nat
 n:Nat
 xn:Nat
 xp:Nat
 c:Int
def DH (H p n:Nat):Nat:=Nat.sub H (Nat.land (Nat.sub (Nat.add p H) n) H)
def pkF (H i:Nat)(f:LE):Pk:=⟨i,SK f.ts,SL f.ts,DH H (SK f.ts) (SL f.ts),DH H (SL f.ts) (SK f.ts),f.c⟩
def ZF (H:Nat):Nat->List LE->List Pk
 |_,[]=>[]
 |i,f::l=>pkF H i f::ZF H (Nat.succ i) l
def Gz (x ps:Nat):Nat:=Nat.land (Nat.shiftRight x (Nat.mul 64 ps)) 18446744073709551615
def P1 (o:Option (List Cs))(x:Cs)(r:Option (List Cs)):Option (List Cs):=match o with|some l=>some (x::l)|none=>r
def KI (bit:Nat)(neg:Bool)(kk:Nat)(ps:Nat)(P N:Nat)(c:Int)(K:Nat->Nat->Int->Option (List Cs)):List Pk->Option (List Cs)
 | []=>none
 |f::l=>bif Nat.beq (Nat.land (Nat.shiftRight (bif neg then f.xn else f.xp) bit) 1) 0 then KI bit neg kk ps P N c K l else
  let q:=bif neg then Nat.sub (Gz f.n ps) (Gz f.p ps)else Nat.sub (Gz f.p ps) (Gz f.n ps)
  bif Nat.beq q 1&&Nat.beq kk 1 then P1 (K (Nat.add P f.n) (Nat.add N f.p) (Int.sub c f.c)) (.f 1 1 f.i) (KI bit neg kk ps P N c K l)
  else P1 (K (Nat.add (Nat.mul q P) (Nat.mul kk f.n)) (Nat.add (Nat.mul q N) (Nat.mul kk f.p)) (Int.sub (Int.mul q c) (Int.mul kk f.c))) (.f q kk f.i) (KI bit neg kk ps P N c K l)
def P2 (P N:Nat)(c:Int)(K:Nat->Nat->Int->Option (List Cs)):List Pk->Option (List Cs)
 | []=>none
 |f::l=>bif nD f.c then P1 (K (Nat.add P f.n) (Nat.add N f.p) (Int.sub c f.c)) (.f 1 1 f.i) (P2 P N c K l)else P2 P N c K l
def P3 (kk ps P N:Nat)(c:Int)(K:Nat->Nat->Int->Option (List Cs)):List Pk->Option (List Cs)
 | []=>none
 |f::l=>bif nD f.c then
    let fc:=Nat.sub (Gz f.p ps) (Gz f.n ps)
    let m:=bif Nat.beq fc 0 then 1 else Nat.max 1 (Nat.div kk fc)
    P1 (K (Nat.add P (Nat.mul m f.n)) (Nat.add N (Nat.mul m f.p)) (Int.sub c (Int.mul m f.c))) (.f 1 m f.i) (P3 kk ps P N c K l)
  else P3 kk ps P N c K l
def ZG (a b:Option (List Cs)):Option (List Cs):=match a with|some l=>some l|none=>b
def KJ (x:Nat):Nat->Nat->Nat
 |0,a=>a
 |k+1,a=>bif Nat.beq (Nat.shiftRight x (Nat.add a (Nat.pow 2 k))) 0 then KJ x k a else KJ x k (Nat.add a (Nat.pow 2 k))
def Co (H Z:Nat)(fs:List Pk):Nat->Nat->Nat->Nat->Int->Option (List Cs)
 |0,_,_,_,_=>none
 |fu+1,ban,P,N,c =>
  let xn:=DH H P N
  let x:=Nat.lor xn (Nat.sub Z (Nat.land (Nat.sub (Nat.add N H) P) Z))
  bif Nat.beq (Nat.land x ban) 0 then
   (bif Nat.beq x 0 then (bif nD c then (let bit:=KJ (DH H N P) 21 0
    let ps:=Nat.shiftRight bit 6
    let kk:=Nat.sub (Gz P ps) (Gz N ps)
    bif Nat.ble kk 1 then P2 P N c (fun P N c=>Co H Z fs fu ban P N c) fs else P3 kk ps P N c (fun P N c=>Co H Z fs fu ban P N c) fs)else some [])
   else
    let bit:=KJ x 21 0
    let ps:=Nat.shiftRight bit 6
    let neg:=!Nat.beq (Nat.land (Nat.shiftRight xn bit) 1) 0
    let kk:=bif neg then Nat.sub (Gz N ps) (Gz P ps)else Nat.sub (Gz P ps) (Gz N ps)
    let ban':=Nat.lor ban (Nat.shiftLeft 1 bit)
    ZG (KI bit neg kk ps P N c (fun P N c=>Co H Z fs fu ban' P N c) fs)
     (bif Nat.beq (Nat.land ps 7) 3 then
      ZG (P1 (Co H Z fs fu ban' (Nat.add P (Nat.shiftLeft kk (Nat.mul 64 ps))) (Nat.add N (Nat.shiftLeft kk (Nat.mul 64 (Nat.pred ps)))) c) (.lw 1 kk (Nat.shiftRight ps 3)) none)
       (P1 (Co H Z fs fu ban' (Nat.add P (Nat.shiftLeft kk (Nat.mul 64 ps))) N (Int.sub c (Int.mul kk ma))) (.Bt 1 kk (Nat.shiftRight ps 3)) none)
     else bif Nat.beq (Nat.land ps 7) 7 then P1 (Co H Z fs fu ban' (Nat.add P (Nat.shiftLeft kk (Nat.mul 64 ps))) N (Int.sub c (Int.mul kk kC))) (.ls 1 kk (Nat.shiftRight ps 3)) none else none))
  else none
def M1 (nx:Nat):Nat:=bif Nat.ble nx 120 then 120 else bif Nat.ble nx 500 then 500 else 4000
def pv (fu nx:Nat)(fs:List LE)(g:LE):Bool:=bif !nD g.c&&!FN g.ts then true else
 let H:=WB (M1 nx)
 match Co H (WC (M1 nx)) (ZF H 0 fs) fu 0 (SK g.ts) (SL g.ts) g.c with
 |some l=>Ay fs l g
 |none=>false
theorem AJ {fs:List LE}{ρ:bm}(hfs:∀f∈fs,0<=f.ev ρ){n nx:Nat}{g:LE}(h:pv n nx fs g=true):0<=g.ev ρ:=by
 unfold pv at h;cases hb:(!nD g.c&&!FN g.ts)with
 |true =>
  rw[za,zam,zam]at hb;have h1:=ri hb.1;have h2:=xW hb.2 ρ;unfold LE.ev;omega
 |false =>
  rw[hb,cond_false]at h;simp only at h;split at h
  ·exact HQ hfs h
  ·cases h
inductive BE where
 |k (b:Bool)|v (x:Nat)|nv (x:Nat)|ge (e:LE)|eq (e:LE)|ne (e:LE)
def BE.ev (ρ:bm):BE->Bool
 |.k b=>b
 |.v x=>(ρ x).bb
 |.nv x=>!(ρ x).bb
 |.ge e=>decide (0<=e.ev ρ)
 |.eq e=>decide (e.ev ρ=0)
 |.ne e=>!decide (e.ev ρ=0)
def BE.lt (n:Nat):BE->Bool
 |.k _=>true
 |.v x=>Nat.blt x n
 |.nv x=>Nat.blt x n
 |.ge e=>e.lt n
 |.eq e=>e.lt n
 |.ne e=>e.lt n
def BE.not:BE->BE
 |.k b=>.k (!b)
 |.v x=>.nv x
 |.nv x=>.v x
 |.ge e=>.ge ((LE.k (-1)).sub e)
 |.eq e=>.ne e
 |.ne e=>.eq e
theorem BE.Cp (ρ:bm)(b:BE):b.not.ev ρ=!b.ev ρ:=by
 cases b with
 |ge e =>
  simp only[BE.not,BE.ev,LE.au,LE.bk];rw[zcy];simp only[zam,decide_eq_true_eq,decide_eq_false_iff_not];omega
 |_=>simp[BE.not,BE.ev]
theorem BE.cg {k:Nat}{ρ ρ':bm}(h:dh k ρ ρ'){b:BE}(hb:b.lt k=true):b.ev ρ'=b.ev ρ:=by
 cases b with
 |k b=>rfl
 |v x=>simp only[BE.ev];rw[h x (ax hb)]
 |nv x=>simp only[BE.ev];rw[h x (ax hb)]
 |ge e=>simp only[BE.ev];rw[LE.cg h hb]
 |eq e=>simp only[BE.ev];rw[LE.cg h hb]
 |ne e=>simp only[BE.ev];rw[LE.cg h hb]
def BE.same:BE->BE->Bool
 |.k b,.k b'=>b==b'
 |.v x,.v y=>Nat.beq x y
 |.nv x,.nv y=>Nat.beq x y
 |.ge e,.ge e'=>e.same e'
 |.eq e,.eq e'=>e.same e'
 |.ne e,.ne e'=>e.same e'
 |_,_=>false
theorem BE.bc {x y:BE}(h:x.same y=true)(ρ:bm):x.ev ρ=y.ev ρ:=by
 cases x<;>cases y<;>simp only[BE.same,zaf]at h
 ·rw[beq_iff_eq]at h;subst h;rfl
 ·have:=zab h;subst this;rfl
 ·have:=zab h;subst this;rfl
 all_goals (simp only[BE.ev];rw[LE.bc h ρ])
inductive SC where
 |int (k:IntKind) (e:LE)|bool (b:BE)|str (x:Nat)|my (l m:Nat)|px (k:FloatKind) (x:Nat)|xX (k:FloatKind) (b:Nat)
 |ref (x:Nat)|ab|c7|bg|cJ
 |bZ (b o:Nat)|py (x:Nat) (i:LE) (sz o:Nat)|vb (x o:Nat)|cV (b:Nat)|fn (f:Nat)|wA (b n:Nat)
def pz (v:AV)(k:Nat):AV:=match v with|.dx b o _ _=>.bZ b (o+k)|_=>.c7
def mz (v:AV)(k:Nat):AV:=match v with|.bZ b o=>.bZ b (o+k)|_=>.c7
def SC.den (ρ:bm):SC->AV
 |.int k e=>.int k (e.ev ρ)
 |.bool b=>.bool (b.ev ρ)
 |.str x=>.str (ρ x).sl (ρ x).sm
 |.my l m=>.str l m
 |.px k x=>.float k (ρ x).nn
 |.xX k b=>.float k b
 |.ref x=>(ρ x).vv
 |.ab=>.ab|.c7=>.c7|.bg=>.bg|.cJ=>.cJ
 |.bZ b o=>.bZ (ρ b).nn o
 |.py x i sz o=>pz (ρ x).vv ((i.ev ρ).toNat*sz+o)
 |.vb x o=>mz (ρ x).vv o
 |.cV b=>.cV (ρ b).nn
 |.fn f=>.func (.func f) [] []
 |.wA b n=>.dx (ρ b).nn 0 n n
def SC.lt (n:Nat):SC->Bool
 |.int _ e=>e.lt n
 |.bool b=>b.lt n
 |.str x=>Nat.blt x n
 |.px _ x=>Nat.blt x n
 |.ref x=>Nat.blt x n
 |.bZ b _=>Nat.blt b n
 |.py x i _ _=>Nat.blt x n&&i.lt n
 |.vb x _=>Nat.blt x n
 |.cV b=>Nat.blt b n
 |.wA b _=>Nat.blt b n
 |_=>true
theorem SC.cg {k:Nat}{ρ ρ':bm}(h:dh k ρ ρ'){c:SC}(hc:c.lt k=true):c.den ρ'=c.den ρ:=by
 cases c with
 |int kd e=>simp only[SC.den];rw[LE.cg h hc]
 |bool b=>simp only[SC.den];rw[BE.cg h hc]
 |py x i sz o =>
  have hc:(Nat.blt x k&&i.lt k)=true:=hc;rw[za]at hc;simp only[SC.den];rw[h x (ax hc.1),LE.cg h hc.2]
 |str x=>simp only[SC.den];rw[h x (ax hc)]
 |px kd x=>simp only[SC.den];rw[h x (ax hc)]
 |ref x=>simp only[SC.den];rw[h x (ax hc)]
 |bZ x o=>simp only[SC.den];rw[h x (ax hc)]
 |vb x o=>simp only[SC.den];rw[h x (ax hc)]
 |cV x=>simp only[SC.den];rw[h x (ax hc)]
 |wA x _=>simp only[SC.den];rw[h x (ax hc)]
 |_=>rfl
def di:IntKind->IntKind->Bool:=fun a b=>decide (a=b)
def pA:FloatKind->FloatKind->Bool:=fun a b=>decide (a=b)
def SC.same:SC->SC->Bool
 |.int k e,.int k' e'=>di k k'&&e.same e'
 |.bool b,.bool b'=>b.same b'
 |.str x,.str y=>Nat.beq x y
 |.my l m,.my l' m'=>Nat.beq l l'&&Nat.beq m m'
 |.px k x,.px k' y=>pA k k'&&Nat.beq x y
 |.xX k x,.xX k' y=>pA k k'&&Nat.beq x y
 |.ref x,.ref y=>Nat.beq x y
 |.ab,.ab=>true
 |.c7,.c7=>true
 |.bg,.bg=>true
 |.cJ,.cJ=>true
 |.bZ b o,.bZ b' o'=>Nat.beq b b'&&Nat.beq o o'
 |.py x i s o,.py x' i' s' o'=>Nat.beq x x'&&(i.same i'&&(Nat.beq s s'&&Nat.beq o o'))
 |.vb x o,.vb x' o'=>Nat.beq x x'&&Nat.beq o o'
 |.cV b,.cV b'=>Nat.beq b b'
 |.fn f,.fn f'=>Nat.beq f f'
 |.wA b o,.wA b' o'=>Nat.beq b b'&&Nat.beq o o'
 |_,_=>false
theorem SC.bc {x y:SC}(h:x.same y=true)(ρ:bm):x.den ρ=y.den ρ:=by
 cases x<;>cases y<;>simp only[SC.same,zaf,za,di,pA,decide_eq_true_eq]at h
 ·obtain⟨rfl,h⟩:=h;simp only[SC.den];rw[LE.bc h ρ]
 ·simp only[SC.den];rw[BE.bc h ρ]
 ·have:=zab h;subst this;rfl
 ·obtain⟨h1,h2⟩:=h;have:=zab h1;have:=zab h2;subst_vars;rfl
 ·obtain⟨rfl,h⟩:=h;have:=zab h;subst this;rfl
 ·obtain⟨rfl,h⟩:=h;have:=zab h;subst this;rfl
 ·have:=zab h;subst this;rfl
 ·rfl
 ·rfl
 ·rfl
 ·rfl
 ·obtain⟨h1,h2⟩:=h;have:=zab h1;have:=zab h2;subst_vars;rfl
 ·obtain⟨h1,h2,h3,h4⟩:=h;have:=zab h1;have:=zab h3;have:=zab h4;subst_vars;simp only[SC.den];rw[LE.bc h2 ρ]
 ·obtain⟨h1,h2⟩:=h;have:=zab h1;have:=zab h2;subst_vars;rfl
 ·have:=zab h;subst this;rfl
 ·have:=zab h;subst this;rfl
 ·obtain⟨h1,h2⟩:=h;have:=zab h1;have:=zab h2;subst_vars;rfl
def aD (ρ:bm)(cs:List SC):List AV:=cs.map (SC.den ρ)
def uE (n:Nat)(cs:List SC):Bool:=cs.all (SC.lt n)
theorem lu {k:Nat}{ρ ρ':bm}(h:dh k ρ ρ'){cs:List SC}(hc:uE k cs=true):aD ρ' cs=aD ρ cs:=zav fun c hm=>SC.cg h (List.all_eq_true.1 hc c hm)
def oH:List SC->List SC->Bool
 | [],[]=>true
 |x::xs,y::ys=>x.same y&&oH xs ys
 |_,_=>false
theorem jL:∀{xs ys:List SC},oH xs ys=true->∀ρ,aD ρ xs=aD ρ ys
 | [],[],_,ρ=>rfl
 |x::xs,y::ys,h,ρ=>by
  simp only[oH,za]at h;show x.den ρ::aD ρ xs=y.den ρ::aD ρ ys;rw[SC.bc h.1 ρ,jL h.2 ρ]
 | [],_::_,h,_=>by cases h
 |_::_,[],h,_=>by cases h
inductive SV where
 |v (ag:Bool) (cs:List SC)
 |cN (l:List (Bool×List SC))
 |undef
 |wB (f:Nat) (bs cs:List SC)
 |slt (q:Nat) (e:LE) (sz:Nat)
def cj (ρ:bm)(p:Bool×List SC):AV:=match p.1 with|true=>.agg (aD ρ p.2)|false=>(aD ρ p.2).headD .ab
def HR (v:AV)(j sz:Nat):AV:=match v with
 |.dx b o n cap=>.dx b (bif Nat.beq cap j then o else o+j*sz) (n-j) (cap-j)
 |x=>x
def SV.den (ρ:bm):SV->AV
 |.v ag cs=>cj ρ (ag,cs)
 |.cN l=>.cN (l.map (cj ρ))
 |.undef=>aG
 |.wB f bs cs=>.func (.func f) (aD ρ bs) (aD ρ cs)
 |.slt q e sz=>HR (ρ q).vv (e.ev ρ).toNat sz
def SV.lt (n:Nat):SV->Bool
 |.v _ cs=>uE n cs
 |.cN l=>l.all fun p=>uE n p.2
 |.undef=>true
 |.wB _ bs cs=>uE n bs&&uE n cs
 |.slt q e _=>Nat.blt q n&&e.lt n
theorem qz {k:Nat}{ρ ρ':bm}(h:dh k ρ ρ'){p:Bool×List SC}(hc:uE k p.2=true):cj ρ' p=cj ρ p:=by unfold cj;rw[lu h hc]
theorem SV.cg {k:Nat}{ρ ρ':bm}(h:dh k ρ ρ'){v:SV}(hv:v.lt k=true):v.den ρ'=v.den ρ:=by
 cases v with
 |v ag cs=>exact qz h hv
 |cN l=>simp only[SV.den];congr 1;exact zav fun p hp=>qz h (List.all_eq_true.1 hv p hp)
 |undef=>rfl
 |wB f bs cs =>
  have hv:(uE k bs&&uE k cs)=true:=hv;rw[za]at hv;simp only[SV.den];rw[lu h hv.1,lu h hv.2]
 |slt q e sz =>
  have hv:(Nat.blt q k&&e.lt k)=true:=hv;rw[za]at hv;simp only[SV.den];rw[h _ (ax hv.1),LE.cg h hv.2]
def DI:List (Bool×List SC)->List (Bool×List SC)->Bool
 | [],[]=>true
 |x::xs,y::ys=>(x.1==y.1)&&(oH x.2 y.2&&DI xs ys)
 |_,_=>false
theorem AK:∀{xs ys:List (Bool×List SC)},DI xs ys=true->∀ρ,xs.map (cj ρ)=ys.map (cj ρ)
 | [],[],_,ρ=>rfl
 |x::xs,y::ys,h,ρ=>by
  simp only[DI,za,beq_iff_eq]at h;obtain⟨h1,h2,h3⟩:=h;rw[zal,zal,AK h3 ρ];congr 1;unfold cj;rw[h1,jL h2 ρ]
 | [],_::_,h,_=>by cases h
 |_::_,[],h,_=>by cases h
def SV.same:SV->SV->Bool
 |.v a cs,.v a' cs'=>(a==a')&&oH cs cs'
 |.cN l,.cN l'=>DI l l'
 |.undef,.undef=>true
 |.wB f bs cs,.wB f' bs' cs'=>Nat.beq f f'&&(oH bs bs'&&oH cs cs')
 |.slt q e sz,.slt q' e' sz'=>Nat.beq q q'&&(e.same e'&&Nat.beq sz sz')
 |_,_=>false
theorem SV.bc {x y:SV}(h:x.same y=true)(ρ:bm):x.den ρ=y.den ρ:=by
 cases x<;>cases y<;>simp only[SV.same,zaf,za,beq_iff_eq]at h
 ·obtain⟨rfl,h⟩:=h;simp only[SV.den,cj];rw[jL h ρ]
 ·simp only[SV.den];rw[AK h ρ]
 ·rfl
 ·obtain⟨h1,h2,h⟩:=h;have:=zab h1;subst this;simp only[SV.den];rw[jL h2 ρ,jL h ρ]
 ·obtain⟨h1,h2,h3⟩:=h;have:=zab h1;have:=zab h3;subst_vars;simp only[SV.den];rw[LE.bc h2 ρ]
def ig (ρ:bm):Nat->Nat|0=>0|k+1=>(ρ k).nn
def bG (n g:Nat):Bool:=Nat.ble g n
theorem bR {k:Nat}{ρ ρ':bm}(h:dh k ρ ρ'){g:Nat}(hg:bG k g=true):ig ρ' g=ig ρ g:=by
 cases g with
 |zero=>rfl
 |succ g=>have:=aN hg;simp only[ig];rw[h g (by omega)]
inductive dW where
 |sl (x c g:Nat)|pt (x c g:Nat)|mp (x c g:Nat)|el (x c:Nat) (e:LE) (off:Nat) (v:SC)
def dW.den (ρ:bm):dW->TF
 |.sl x c g=>.sl (ρ x).vv c (ig ρ g) (ρ x).ns
 |.pt x c g=>.pt (ρ x).vv c (ig ρ g)
 |.mp x c g=>.mp (ρ x).vv c (ig ρ g)
 |.el x c e off v=>.el (ρ x).vv c (e.ev ρ).toNat off (v.den ρ)
def dW.lt (n:Nat):dW->Bool
 |.sl x _ g=>Nat.blt x n&&bG n g
 |.pt x _ g=>Nat.blt x n&&bG n g
 |.mp x _ g=>Nat.blt x n&&bG n g
 |.el x _ e _ v=>Nat.blt x n&&(e.lt n&&v.lt n)
theorem dW.cg {k:Nat}{ρ ρ':bm}(h:dh k ρ ρ'){f:dW}(hf:f.lt k=true):f.den ρ'=f.den ρ:=by
 cases f with
 |el x c e off v=>simp only[dW.lt,za]at hf;simp only[dW.den];rw[h _ (ax hf.1),LE.cg h hf.2.1,SC.cg h hf.2.2]
 |_=>simp only[dW.lt,za]at hf;simp only[dW.den];rw[h _ (ax hf.1),bR h hf.2]
def dW.beq:dW->dW->Bool
 |.sl x c g,.sl x' c' g'=>Nat.beq x x'&&(Nat.beq c c'&&Nat.beq g g')
 |.pt x c g,.pt x' c' g'=>Nat.beq x x'&&(Nat.beq c c'&&Nat.beq g g')
 |.mp x c g,.mp x' c' g'=>Nat.beq x x'&&(Nat.beq c c'&&Nat.beq g g')
 |_,_=>false
theorem dW.aj {x y:dW}(h:x.beq y=true):x=y:=by
 cases x<;>cases y<;>simp only[dW.beq,zaf,za]at h
 all_goals (obtain⟨h1,h2,h3⟩:=h;have:=zab h1;have:=zab h2;have:=zab h3;subst_vars;rfl)
def Tu (n:Nat):Option (SV×Option (Bool×List SC))->Bool
 |none=>true
 |some (k,none)=>k.lt n
 |some (k,some x)=>k.lt n&&uE n x.2
theorem HS {k:Nat}{ρ ρ':bm}(h:dh k ρ ρ'){q:Option (SV×Option (Bool×List SC))}(hq:Tu k q=true):(q.map fun p=>(p.1.den ρ',p.2.map (cj ρ')))=q.map fun p=>(p.1.den ρ,p.2.map (cj ρ)):=by
 match q,hq with
 |none,_=>rfl
 |some (x,none),hq=>simp only[zaz,zbu];rw[SV.cg h hq]
 |some (x,some y),hq =>
  have hq:(x.lt k&&uE k y.2)=true:=hq;rw[za]at hq;simp only[zaz];rw[SV.cg h hq.1,qz h hq.2]
inductive SO where
 |loc (b:Nat) (el:TypeId) (cs:List SC)
 |jg (x c:Nat)
 |em (b:Nat) (pk:KK)
 |ul (x c g:Nat)
 |am (b g k:Nat)
 |im (b:Nat) (e:LE)
 |bl (x m:Nat) (el:TypeId)
 |km (b c g:Nat) (n:LE)
 |kq (b c g:Nat) (n:LE) (q:Option (SV×Option (Bool×List SC)))
 |rm (x c g:Nat) (n:LE)
 |it (b:Nat) (m:SC) (n r:LE) (st ty:Bool)
def SO.den (ρ:bm):SO->Own
 |.loc b el cs=>.loc (ρ b).nn el (aD ρ cs)
 |.jg x c=>.jg (ρ x).vv c (ρ x).ns
 |.em b pk=>.map (ρ b).nn pk []
 |.ul x c g=>.ul (ρ x).vv c (ig ρ g) (ρ x).ns.length
 |.am b g k=>.am (ρ b).nn (ig ρ g) k
 |.im b e=>.im (ρ b).nn (e.ev ρ).toNat
 |.bl x m el=>.bl (ρ x).vv el (ρ m).ns
 |.km b c g n=>.km (ρ b).nn c (ig ρ g) (n.ev ρ).toNat
 |.kq b c g n q=>.kq (ρ b).nn c (ig ρ g) (n.ev ρ).toNat (q.map fun p=>(p.1.den ρ,p.2.map (cj ρ)))
 |.rm x c g n=>.rm (ρ x).vv c (ig ρ g) (n.ev ρ).toNat
 |.it b m n r st ty=>.it (ρ b).nn (m.den ρ) (n.ev ρ).toNat (r.ev ρ).toNat st ty
def SO.lt (n:Nat):SO->Bool
 |.loc b _ cs=>Nat.blt b n&&uE n cs
 |.jg x _=>Nat.blt x n
 |.em b _=>Nat.blt b n
 |.ul x _ g=>Nat.blt x n&&bG n g
 |.am b g _=>Nat.blt b n&&bG n g
 |.im b e=>Nat.blt b n&&e.lt n
 |.bl x m _=>Nat.blt x n&&Nat.blt m n
 |.km b _ g k=>Nat.blt b n&&(bG n g&&k.lt n)
 |.kq b _ g k q=>Nat.blt b n&&(bG n g&&(k.lt n&&Tu n q))
 |.rm x _ g k=>Nat.blt x n&&(bG n g&&k.lt n)
 |.it b m k r _ _=>Nat.blt b n&&(m.lt n&&(k.lt n&&r.lt n))
theorem SO.cg {k:Nat}{ρ ρ':bm}(h:dh k ρ ρ'){o:SO}(ho:o.lt k=true):o.den ρ'=o.den ρ:=by
 cases o with
 |loc b el cs=>simp only[SO.lt,za]at ho;simp only[SO.den];rw[h _ (ax ho.1),lu h ho.2]
 |jg x c=>simp only[SO.den];rw[h _ (ax ho)]
 |em b pk=>simp only[SO.den];rw[h _ (ax ho)]
 |ul x c g=>simp only[SO.lt,za]at ho;simp only[SO.den];rw[h _ (ax ho.1),bR h ho.2]
 |am b g k=>simp only[SO.lt,za]at ho;simp only[SO.den];rw[h _ (ax ho.1),bR h ho.2]
 |im b e=>simp only[SO.lt,za]at ho;simp only[SO.den];rw[h _ (ax ho.1),LE.cg h ho.2]
 |bl x m el=>simp only[SO.lt,za]at ho;simp only[SO.den];rw[h _ (ax ho.1),h _ (ax ho.2)]
 |km b c g n=>simp only[SO.lt,za]at ho;simp only[SO.den];rw[h _ (ax ho.1),bR h ho.2.1,LE.cg h ho.2.2]
 |kq b c g n q=>simp only[SO.lt,za]at ho;simp only[SO.den];rw[h _ (ax ho.1),bR h ho.2.1,LE.cg h ho.2.2.1,HS h ho.2.2.2]
 |rm x c g n=>simp only[SO.lt,za]at ho;simp only[SO.den];rw[h _ (ax ho.1),bR h ho.2.1,LE.cg h ho.2.2]
 |it b m n r st ty=>simp only[SO.lt,za]at ho;simp only[SO.den];rw[h _ (ax ho.1),SC.cg h ho.2.1,LE.cg h ho.2.2.1,LE.cg h ho.2.2.2]
def SO.SM:SO->Bool
 |.it _ _ _ _ _ ty=>!ty
 |_=>true
theorem SO.HU {o:SO}(h:o.SM=true)(ρ:bm):(o.den ρ).Tq=false:=by
 cases o with
 |it b m n r st ty=>show ty=false;cases ty with
                                  |false=>rfl
                                  |true=>cases h
 |_=>rfl
def KL:KK->KK->Bool
 |.str,.str=>true|.pair,.pair=>true|.int,.int=>true|.fy,.fy=>true|.kz,.kz=>true|.yJ,.yJ=>true
 |_,_=>false
theorem uF {a b:KK}(h:KL a b=true):a=b:=by cases a<;>cases b<;>first|rfl|cases h
def M3:Option (SV×Option (Bool×List SC))->Option (SV×Option (Bool×List SC))->Bool
 |none,none=>true
 |some (k,none),some (k',none)=>k.same k'
 |some (k,some x),some (k',some x')=>k.same k'&&((x.1==x'.1)&&oH x.2 x'.2)
 |_,_=>false
theorem HV {q q':Option (SV×Option (Bool×List SC))}(h:M3 q q'=true)(ρ:bm):(q.map fun p=>(p.1.den ρ,p.2.map (cj ρ)))=q'.map fun p=>(p.1.den ρ,p.2.map (cj ρ)):=by
 match q,q',h with
 |none,none,_=>rfl
 |some (k,none),some (k',none),h =>
  have h:k.same k'=true:=h;simp only[zaz,zbu];rw[SV.bc h ρ]
 |some (k,some x),some (k',some x'),h =>
  have h:(k.same k'&&((x.1==x'.1)&&oH x.2 x'.2))=true:=h;simp only[za,beq_iff_eq]at h;simp only[zaz];rw[SV.bc h.1 ρ];unfold cj;rw[h.2.1,jL h.2.2 ρ]
def SO.same:SO->SO->Bool
 |.loc b el cs,.loc b' el' cs'=>Nat.beq b b'&&(Nat.beq el el'&&oH cs cs')
 |.jg x c,.jg x' c'=>Nat.beq x x'&&Nat.beq c c'
 |.em b pk,.em b' pk'=>Nat.beq b b'&&KL pk pk'
 |.ul x c g,.ul x' c' g'=>Nat.beq x x'&&(Nat.beq c c'&&Nat.beq g g')
 |.am x c g,.am x' c' g'=>Nat.beq x x'&&(Nat.beq c c'&&Nat.beq g g')
 |.im b e,.im b' e'=>Nat.beq b b'&&e.same e'
 |.bl x c g,.bl x' c' g'=>Nat.beq x x'&&(Nat.beq c c'&&Nat.beq g g')
 |.km x c g n,.km x' c' g' n'=>Nat.beq x x'&&(Nat.beq c c'&&(Nat.beq g g'&&n.same n'))
 |.kq x c g n q,.kq x' c' g' n' q'=>Nat.beq x x'&&(Nat.beq c c'&&(Nat.beq g g'&&(n.same n'&&M3 q q')))
 |.it b m n r st ty,.it b' m' n' r' st' ty'=>Nat.beq b b'&&(m.same m'&&(n.same n'&&(r.same r'&&(st==st'&&ty==ty'))))
 |_,_=>false
theorem SO.bc {x y:SO}(h:x.same y=true)(ρ:bm):x.den ρ=y.den ρ:=by
 cases x<;>cases y<;>simp only[SO.same,zaf,za]at h
 ·obtain⟨h1,h2,h3⟩:=h;have:=zab h1;have:=zab h2;subst_vars;simp only[SO.den];rw[jL h3 ρ]
 ·obtain⟨h1,h2⟩:=h;have:=zab h1;have:=zab h2;subst_vars;rfl
 ·obtain⟨h1,h2⟩:=h;have:=zab h1;have:=uF h2;subst_vars;rfl
 ·obtain⟨h1,h2,h3⟩:=h;have:=zab h1;have:=zab h2;have:=zab h3;subst_vars;rfl
 ·obtain⟨h1,h2,h3⟩:=h;have:=zab h1;have:=zab h2;have:=zab h3;subst_vars;rfl
 ·obtain⟨h1,h2⟩:=h;have:=zab h1;subst_vars;simp only[SO.den];rw[LE.bc h2 ρ]
 ·obtain⟨h1,h2,h3⟩:=h;have:=zab h1;have:=zab h2;have:=zab h3;subst_vars;rfl
 ·obtain⟨h1,h2,h3,h4⟩:=h;have:=zab h1;have:=zab h2;have:=zab h3;subst_vars;simp only[SO.den];rw[LE.bc h4 ρ]
 ·obtain⟨h1,h2,h3,h4,h5⟩:=h;have:=zab h1;have:=zab h2;have:=zab h3;subst_vars;simp only[SO.den];rw[LE.bc h4 ρ,HV h5 ρ]
 ·obtain⟨h1,h2,h3,h4,h5,h6⟩:=h;have:=zab h1;have:=eq_of_beq h5;have:=eq_of_beq h6;subst_vars;simp only[SO.den];rw[SC.bc h2 ρ,LE.bc h3 ρ,LE.bc h4 ρ]
structure SS where
 nx:Nat
 L:List (Nat×SV)
 os:List SO
 ty:List dW
 gs:List (Nat×Nat×Bool)
 fs:List LE
 bs:List (Nat×Bool)
 pw:List (Nat×LE×LE)
 ats:List (Nat×SC×LE)
 dB:List (Nat×LE×LE)
 ne:List LE
 fz:List Nat
 sb:List (Nat×Nat)
def SS.den (ρ:bm)(s:SS):St:=⟨s.L.map fun p=>(p.1,p.2.den ρ),s.os.map (SO.den ρ),s.ty.map (dW.den ρ),s.gs.map fun p=>(ig ρ p.1,(ρ p.2.1).gg,p.2.2)⟩
def Bu (d:Gd)(v:AV):Option Nat:=match v with|.str l m=>d.at_ l m|_=>none
def P4 (ρ:bm)(p:Nat×SC×LE):Prop:=(0<=p.2.2.ev ρ/\Bu (ρ p.1).gg (p.2.1.den ρ)=some (p.2.2.ev ρ).toNat)∨(p.2.2.ev ρ<0/\Bu (ρ p.1).gg (p.2.1.den ρ)=none)
structure Sat (ρ:bm) (s:SS):Prop where
 fs:∀f∈s.fs,0<=f.ev ρ
 bs:∀p∈s.bs,(ρ p.1).bb=p.2
 pw:∀p∈s.pw,0<=p.2.1.ev ρ/\((((ρ p.1).ns.take (p.2.1.ev ρ).toNat).sum:Nat):Int)+p.2.1.ev ρ=p.2.2.ev ρ
 ats:∀p∈s.ats,P4 ρ p
 dB:∀p∈s.dB,0<=p.2.1.ev ρ/\(ρ p.1).gg.fz=true/\(((ρ p.1).gg.fl (p.2.1.ev ρ).toNat:Nat):Int)=p.2.2.ev ρ
 ne:∀e∈s.ne,e.ev ρ≠0
 fz:∀d∈s.fz,(ρ d).gg.fz=true
 sb:∀p∈s.sb,(ρ p.1).gg.sub=ig ρ p.2
def SS.ok (s:SS):Bool :=
 (s.L.all fun p=>p.2.lt s.nx)&&((s.os.all (SO.lt s.nx))&&((s.ty.all (dW.lt s.nx))&&((s.gs.all fun p=>bG s.nx p.1&&Nat.blt p.2.1 s.nx)&&((s.fs.all (LE.lt s.nx))&&((s.bs.all fun p=>Nat.blt p.1 s.nx) &&
 ((s.pw.all fun p=>Nat.blt p.1 s.nx&&(p.2.1.lt s.nx&&p.2.2.lt s.nx))&&((s.ats.all fun p=>Nat.blt p.1 s.nx&&(p.2.1.lt s.nx&&p.2.2.lt s.nx))&&((s.dB.all fun p=>Nat.blt p.1 s.nx&&(p.2.1.lt s.nx&&p.2.2.lt s.nx))&&((s.ne.all (LE.lt s.nx))&&((s.fz.all fun d=>Nat.blt d s.nx)&&(s.sb.all fun p=>Nat.blt p.1 s.nx&&bG s.nx p.2)))))))))))
theorem SS.cg {s:SS}(hs:s.ok=true){ρ ρ':bm}(h:dh s.nx ρ ρ'):s.den ρ'=s.den ρ/\(Sat ρ s->Sat ρ' s):=by
 unfold SS.ok at hs;simp only[za,zb]at hs;obtain⟨h1,h2,h3,h4,h5,h6,h7,h8,h9,h10,h11,h12⟩:=hs;refine⟨?_,fun hsat=>⟨fun f hf=>?_,fun p hp=>?_,fun p hp=>?_,fun p hp=>?_,fun p hp=>?_,fun e he=>?_,fun d hd=>?_,fun p hp=>?_⟩⟩
 ·unfold SS.den;congr 1
  ·exact zav fun p hp=>by rw[SV.cg h (h1 p hp)]
  ·exact zav fun o ho=>SO.cg h (h2 o ho)
  ·exact zav fun f hf=>dW.cg h (h3 f hf)
  ·exact zav fun p hp=>by rw[bR h (h4 p hp).1,h _ (ax (h4 p hp).2)]
 ·rw[LE.cg h (h5 f hf)];exact hsat.fs f hf
 ·rw[h _ (ax (h6 p hp))];exact hsat.bs p hp
 ·obtain⟨k1,k2,k3⟩:=h7 p hp;rw[LE.cg h k2,LE.cg h k3,h _ (ax k1)];exact hsat.pw p hp
 ·obtain⟨k1,k2,k3⟩:=h8 p hp;unfold P4;rw[SC.cg h k2,LE.cg h k3,h _ (ax k1)];exact hsat.ats p hp
 ·obtain⟨k1,k2,k3⟩:=h9 p hp;rw[LE.cg h k2,LE.cg h k3,h _ (ax k1)];exact hsat.dB p hp
 ·rw[LE.cg h (h10 e he)];exact hsat.ne e he
 ·rw[h _ (ax (h11 d hd))];exact hsat.fz d hd
 ·rw[h _ (ax (h12 p hp).1),bR h (h12 p hp).2];exact hsat.sb p hp
end Go.Rd
namespace Go.Rt
open Go.aK Go.RowKit
def xY (ops:Array Oper):Array Oper:=ops.map fun o=>{ o with guard:=none }
theorem jM (ops:Array Oper)(i:Nat):ae (xY ops) i={ ae ops i with guard:=none }:=by
 unfold ae xY;rw[zah,zah,Array.getElem?_map];cases ops[i]?<;>rfl
theorem iB {ops:Array Oper}{T:Tm}{g dg:Nat}{b:Bool}{a:Act}{ι:En}{nt:Nat}(hdg:(ae ops g).dst=some dg)(ht:ca ι nt T a)(hlk:T.at dg=.bool b):Go.yielded ops a.tmps g=some b:=by
 cases ho:ops[g]? with
 |none =>
  unfold ae at hdg;rw[zah,ho]at hdg;cases hdg
 |some o =>
  have e:ae ops g=o:=by unfold ae;rw[zah,ho];rfl
  rw[e]at hdg;have hv:=ht.val dg;rw[hlk]at hv
  have:a.tmps[dg]?=some (.bool b):=by
   rw[zah]at hv;cases h:a.tmps[dg]? with
   |none=>rw[h]at hv;simp[ak,undef]at hv
   |some x=>rw[h]at hv;simpa [ak] using hv
  unfold Go.yielded;rw[ho];simp[hdg,this]
def KM:BinOp->Int->Int->Bool
 |.lss,a,b=>decide (a<b)
 |.leq,a,b=>decide (a<=b)
 |.gtr,a,b=>decide (a > b)
 |.geq,a,b=>decide (a ≥ b)
 |.eql,a,b=>decide (a=b)
 |.neq,a,b=>decide (a≠b)
 |_,_,_=>false
def mn:BinOp->Bool
 |.lss|.leq|.gtr|.geq|.eql|.neq=>true
 |_=>false
def nZ:BinOp->Bool
 |.add|.sub|.mul=>true
 |_=>false
def WD:BinOp->Int->Int->Int
 |.add,a,b=>a+b
 |.sub,a,b=>a-b
 |.mul,a,b=>a*b
 |_,_,_=>0
def nE:AV->Bool
 |.ab=>true
 |.c7=>true
 |.bg=>true
 |_=>false
def ZH (v:AV):Prop:=v=.ab∨∃b o l cap,v=.dx b o l cap
def WE (v:AV):Prop:=v=.c7∨∃b o,v=.bZ b o
def WG (v:AV):Prop:=v=.bg∨∃b,v=.cV b
def DJ:TypeDesc->AV->AV->Prop
 |.slice _,v,w=>ZH v/\w=.ab
 |.pointer _,v,w=>WE v/\w=.c7
 |.map _ _,v,w=>WG v/\w=.bg
 |_,_,_=>False
def rn {α:Type}(o:Nat)(l C:List α):List α:=C.take o++l++C.drop (o+l.length)
theorem DK {α β:Type}(f:α->β)(o:Nat)(l C:List α):(rn o l C).map f=rn o (l.map f) (C.map f):=by simp[rn]
theorem te {α:Type}{o:Nat}{l C:List α}(h:o+l.length<=C.length):(rn o l C).length=C.length:=by simp only[rn,zak,zag,zas];omega
theorem tf {α:Type}{o:Nat}{l C:List α}(h:o+l.length<=C.length)(k:Nat):(rn o l C)[k]?=if o<=k/\k<o+l.length then l[k-o]? else C[k]?:=by
 unfold rn;by_cases h1:k<o
 ·rw[if_neg (by omega),zbd,zat (by rw[zag];omega),zbe h1]
 ·by_cases h2:k<o+l.length
  ·rw[if_pos ⟨by omega,h2⟩,zbd,zax (by rw[zag];omega),zat (by rw[zag];omega),zag,zch (by omega)]
  ·rw[if_neg (by omega),zax (by rw[zak,zag];omega),zbb];congr 1;rw[zak,zag];omega
theorem Cq {o:Nat}{l C:List AV}(h:o+l.length<=C.length):fg o l C=rn o l C:=by
 apply zdg;intro k;rw[oW _ _ _ h,tf h]
section
variable {P:Program}{n0 nt:Nat}{T T2:Tm}{hp H:Tr AO}{nx X:Pz}{G:GH}{ops:Array Oper}{aI:List Nat}{i m d:Nat}{v u:AV}
theorem a9.at {y:Operand}(h:a9 nt T y u){B:Nat->Prop}{w0:World}{ι:En}{a:Act}{w:World}(hs:dX n0 B w0 nt T hp nx G ι a w):a.eval y=ak ι u:=h ι a (hs.1.2 ι (ao.refl _ _)).1
theorem Cr {g dg:Nat}{b:Bool}(hg:(ae ops i).guard=some (g,b))(hdg:(ae ops g).dst=some dg)(hlk:T.at dg=.bool b)(h:ba P (xY ops) n0 nt i T hp nx G v):ba P ops n0 nt i T hp nx G v:=by
 intro B w0 ι a w hs;have hy:=iB hdg (hs.1.2 ι (ao.refl _ _)).1 hlk;rcases h B w0 ι a w hs with ⟨h1,h2⟩|⟨h1,h2⟩
 ·refine .inl ⟨by simp[Region.wanted,hg,hy],?_⟩;rw[jM]at h2;exact h2
 ·rw[jM]at h1;simp[Region.wanted]at h1
theorem uG {g dg:Nat}{b b':Bool}(hg:(ae ops i).guard=some (g,b))(hdg:(ae ops g).dst=some dg)(hlk:T.at dg=.bool b')(hne:b'≠b):ba P ops n0 nt i T hp nx G aG:=by
 intro B w0 ι a w hs;have hy:=iB hdg (hs.1.2 ι (ao.refl _ _)).1 hlk;refine .inr ⟨?_,by simp[dq]⟩;simp[Region.wanted,hg,hy,hne]
theorem uH {g dg:Nat}{b:Bool}(hg:(ae ops i).guard=some (g,b))(hdg:(ae ops g).dst=some dg)(hlk:T.at dg=aG):ba P ops n0 nt i T hp nx G aG:=by
 intro B w0 ι a w hs;refine .inr ⟨?_,by simp[dq]⟩
 have hy:Go.yielded ops a.tmps g=none:=by
  have hv:=(hs.1.2 ι (ao.refl _ _)).1.val dg;rw[hlk,dq]at hv;unfold Go.yielded;cases ho:ops[g]? with
  |none=>rfl
  |some o =>
   have e:ae ops g=o:=by unfold ae;rw[zah,ho];rfl
   rw[e]at hdg;cases h:a.tmps[dg]? with
   |none=>simp[hdg,h]
   |some x =>
    rw[zah,h]at hv;have hv:x=undef:=hv;simp[hdg,h,hv,undef]
 simp[Region.wanted,hg,hy]
theorem Ct {R:Tm->Tr AO->Pz->GH->Prop}{g dg:Nat}{b:Bool}(hg:(ae ops i).guard=some (g,b))(hdg:(ae ops g).dst=some dg)(hlk:T.at dg=.bool b)(h:fI P n0 nt (xY ops) i T hp nx G R):fI P n0 nt ops i T hp nx G R:=by
 intro B w0 ι a w hs;have hy:=iB hdg (hs.1.2 ι (ao.refl _ _)).1 hlk;rcases h B w0 ι a w hs with ⟨h1,h2⟩|⟨h1,h2⟩
 ·refine .inl ⟨by simp[Region.wanted,hg,hy],?_⟩;rw[jM]at h2;exact h2
 ·rw[jM]at h1;simp[Region.wanted]at h1
theorem ba.Tv (hg:(ae ops i).guard=none){x:Operand}(ho:(ae ops i).op=.move x∨(ae ops i).op=.assign x)(hx:a9 nt T x v):ba P ops n0 nt i T hp nx G v:=by
 refine bQ hg fun B w0 ι a w hs=>?_;rcases ho with ho|ho<;>(simp only[execOp,ho];rw[a9.at hx hs];rfl)
theorem ba.HW (hg:(ae ops i).guard=none){x:Operand}{k:Nat}{vs:List AV}(ho:(ae ops i).op=.extract x k)(hx:a9 nt T x (.cN vs))(hv:vs[k]?=some v):ba P ops n0 nt i T hp nx G v:=by
 refine bQ hg fun B w0 ι a w hs=>?_;simp only[execOp,ho];rw[a9.at hx hs];have:(aq ι vs).toArray[k]?=some (ak ι v):=by rw[zao,bx,hv];rfl
 simp[ak,Instr.extract,this]
theorem ba.HX (hg:(ae ops i).guard=none){t ft:TypeId}{x:Operand}{f off:Nat}{cs:List AV}(ho:(ae ops i).op=.field t x f)(hf:fj P t f=some (off,ft))(hx:a9 nt T x (.agg cs))(hv:∀ι w,(part ft (aq ι cs).toArray off).run P w=.ok (ak ι v) w):ba P ops n0 nt i T hp nx G v:=by
 obtain⟨fs,fd,h1,h2,h3,h4⟩:=jZ hf;refine bQ hg fun B w0 ι a w hs=>?_;simp only[execOp,ho];rw[a9.at hx hs];simp only[ak,Instr.field,Sem.run_bind,ay h1,Result.andThen_ok,h2,Go.asAgg,Sem.run_pure];rw[h4,h3,hv];rfl
theorem ba.M4 (hg:(ae ops i).guard=none){c x y:Operand}{b:Bool}(ho:(ae ops i).op=.pick c x y)(hc:a9 nt T c (.bool b))(hx:b=true->a9 nt T x v)(hy:b=false->a9 nt T y v):ba P ops n0 nt i T hp nx G v:=by
 refine bQ hg fun B w0 ι a w hs=>?_;simp only[execOp,ho];rw[a9.at hc hs];cases b with
 |true=>rw[a9.at (hx rfl) hs];simp[ak,asBool]
 |false=>rw[a9.at (hy rfl) hs];simp[ak,asBool]
theorem ba.WH (hg:(ae ops i).guard=none){op:BinOp}{t yt:TypeId}{x y:Operand}{k:IntKind}{a b:Int}(ho:(ae ops i).op=.binOp op t x y yt)(hr:mn op=true)(hx:a9 nt T x (.int k a))(hy:a9 nt T y (.int k b)):ba P ops n0 nt i T hp nx G (.bool (KM op a b)):=by
 refine bQ hg fun B w0 ι a' w hs=>?_;simp only[execOp,ho];rw[a9.at hx hs,a9.at hy hs];cases op<;>first|(simp[mn]at hr;done)|(simp[ak,eqGuard,binOp,Op.intCmp,KM];try rfl)
theorem ba.ZI (hg:(ae ops i).guard=none){op:BinOp}{t yt:TypeId}{x y:Operand}{k:IntKind}{a b:Int}(ho:(ae ops i).op=.binOp op t x y yt)(hr:nZ op=true)(hx:a9 nt T x (.int k a))(hy:a9 nt T y (.int k b)):ba P ops n0 nt i T hp nx G (.int k (k.wrap (WD op a b))):=by
 refine bQ hg fun B w0 ι a' w hs=>?_;simp only[execOp,ho];rw[a9.at hx hs,a9.at hy hs];cases op<;>first|(simp[nZ]at hr;done)|(simp[ak,eqGuard,binOp,Op.intArith,WD];try rfl)
theorem ba.P5 (hg:(ae ops i).guard=none){op:BinOp}{t yt:TypeId}{x y:Operand}{k:IntKind}{a b:Int}(ho:(ae ops i).op=.binOp op t x y yt)(hr:op=.and∨op=.or∨op=.xor)(hx:a9 nt T x (.int k a))(hy:a9 nt T y (.int k b)):∃r,ba P ops n0 nt i T hp nx G (.int k r):=by
 have h:∃r,∀ι w,(binOp op t (ak ι (.int k a)) (ak ι (.int k b))).run P w=.ok (ak ι (.int k r)) w:=by
  rcases hr with rfl|rfl|rfl<;>exact⟨_,fun ι w=>by simp[ak,binOp,Op.intBits];rfl⟩
 obtain⟨r,h⟩:=h;refine⟨r,bQ hg fun B w0 ι a' w hs=>?_⟩;simp only[execOp,ho];rw[a9.at hx hs,a9.at hy hs];have e:(eqGuard op t x y (ak ι (.int k a)) (ak ι (.int k b))).run P w=.ok () w:=by rcases hr with rfl|rfl|rfl<;>simp[eqGuard]
 simp only[Sem.run_bind,e,Result.andThen_ok,h,Sem.run_pure]
theorem ba.Tw (hg:(ae ops i).guard=none){op:BinOp}{t yt:TypeId}{x y:Operand}{k:IntKind}{a b:Int}(ho:(ae ops i).op=.binOp op t x y yt)(hr:op=.quo∨op=.rem)(hb:b≠0)(hx:a9 nt T x (.int k a))(hy:a9 nt T y (.int k b)):∃r,(op=.quo->r=k.wrap (a.tdiv b))/\(op=.rem->r=a.tmod b)/\ba P ops n0 nt i T hp nx G (.int k r):=by
 have h:∃r,(op=.quo->r=k.wrap (a.tdiv b))/\(op=.rem->r=a.tmod b)/\∀ι w,(binOp op t (ak ι (.int k a)) (ak ι (.int k b))).run P w=.ok (ak ι (.int k r)) w:=by
  rcases hr with rfl|rfl
  ·exact⟨_,fun _=>rfl,(fun h=>by cases h),fun ι w=>by simp[ak,binOp,Op.intDiv,hb]⟩
  ·exact⟨_,(fun h=>by cases h),fun _=>rfl,fun ι w=>by simp[ak,binOp,Op.intDiv,hb]⟩
 obtain⟨r,h1,h2,h⟩:=h;refine⟨r,h1,h2,bQ hg fun B w0 ι a' w hs=>?_⟩;simp only[execOp,ho];rw[a9.at hx hs,a9.at hy hs];have e:(eqGuard op t x y (ak ι (.int k a)) (ak ι (.int k b))).run P w=.ok () w:=by rcases hr with rfl|rfl<;>simp[eqGuard]
 simp only[Sem.run_bind,e,Result.andThen_ok,h,Sem.run_pure]
theorem ba.ZJ (hg:(ae ops i).guard=none){op:BinOp}{t yt:TypeId}{x y:Operand}{k k':IntKind}{a b:Int}(ho:(ae ops i).op=.binOp op t x y yt)(hr:op=.shl∨op=.shr)(hb:0<=b)(hx:a9 nt T x (.int k a))(hy:a9 nt T y (.int k' b)):∃r,ba P ops n0 nt i T hp nx G (.int k r):=by
 have h:∃r,∀ι w,(binOp op t (ak ι (.int k a)) (ak ι (.int k' b))).run P w=.ok (ak ι (.int k r)) w:=by
  have hb':¬b<0:=by omega
  rcases hr with rfl|rfl<;>exact⟨_,fun ι w=>by simp[ak,binOp,Op.shift,hb'];rfl⟩
 obtain⟨r,h⟩:=h;refine⟨r,bQ hg fun B w0 ι a' w hs=>?_⟩;simp only[execOp,ho];rw[a9.at hx hs,a9.at hy hs];have e:(eqGuard op t x y (ak ι (.int k a)) (ak ι (.int k' b))).run P w=.ok () w:=by rcases hr with rfl|rfl<;>simp[eqGuard]
 simp only[Sem.run_bind,e,Result.andThen_ok,h,Sem.run_pure]
theorem ba.WI (hg:(ae ops i).guard=none){op:BinOp}{t yt:TypeId}{x y:Operand}{l n l' n':Nat}(ho:(ae ops i).op=.binOp op t x y yt)(hr:mn op=true)(hx:a9 nt T x (.str l n))(hy:a9 nt T y (.str l' n')):∃b,(op=.eql->b=aR l n l' n')/\(op=.neq->b=!aR l n l' n')/\ba P ops n0 nt i T hp nx G (.bool b):=by
 have h:∃b,(op=.eql->b=aR l n l' n')/\(op=.neq->b=!aR l n l' n')/\∀ι w,(binOp op t (ak ι (.str l n)) (ak ι (.str l' n'))).run P w=.ok (ak ι (.bool b)) w:=by
  have key:∀ι w,(binOp op t (ak ι (.str l n)) (ak ι (.str l' n'))).run P w=(Op.stringOp op ⟨(bytesOf l n).toArray⟩ ⟨(bytesOf l' n').toArray⟩).run P w:=fun ι w=>by cases op<;>first|(simp[mn]at hr;done)|simp[ak,binOp]
  cases op<;>first|(simp[mn]at hr;done)|skip
  ·exact⟨_,fun _=>rfl,(fun h=>by cases h),fun ι w=>by rw[key];simp[Op.stringOp,toList_mk,dZ,ak]⟩
  ·exact⟨_,(fun h=>by cases h),fun _=>rfl,fun ι w=>by rw[key];simp[Op.stringOp,toList_mk,dZ,ak]⟩
  all_goals exact⟨_,(fun h=>by cases h),(fun h=>by cases h),fun ι w=>by rw[key];simp only[Op.stringOp,Sem.run_pure,ak];rfl⟩
 obtain⟨b,h1,h2,h⟩:=h;refine⟨b,h1,h2,bQ hg fun B w0 ι a' w hs=>?_⟩;simp only[execOp,ho];rw[a9.at hx hs,a9.at hy hs];have e:(eqGuard op t x y (ak ι (.str l n)) (ak ι (.str l' n'))).run P w=.ok () w:=by simp[ak,eqGuard]
 simp only[Sem.run_bind,e,Result.andThen_ok,h,Sem.run_pure]
theorem ba.WJ (hg:(ae ops i).guard=none){t:TypeId}{x:Operand}{b:Bool}(ho:(ae ops i).op=.unOp .not t x)(hx:a9 nt T x (.bool b)):ba P ops n0 nt i T hp nx G (.bool (!b)):=by
 refine bQ hg fun B w0 ι a w hs=>?_;simp only[execOp,ho];rw[a9.at hx hs];simp[ak,Op.unary]
theorem ba.M5 (hg:(ae ops i).guard=none){s t:TypeId}{x:Operand}{ks kt:IntKind}{n:Int}(ho:(ae ops i).op=.convert s t x)(hs:P.underlying s=some (.int ks))(ht:P.underlying t=some (.int kt))(hx:a9 nt T x (.int ks n)):ba P ops n0 nt i T hp nx G (.int kt (kt.wrap n)):=by
 refine bQ hg fun B w0 ι a w hsat=>?_;simp only[execOp,ho];rw[a9.at hx hsat];simp[ak,convert,ay hs,ay ht,Conv.intToInt]
theorem Cu {P:Program}{t:TypeId}{dd:TypeDesc}{v w:AV}(D:Nat)(hu:P.underlying t=some dd)(hn:DJ dd v w)(ι:En)(ww:World):(Op.equalIn (D+1) t (ak ι v) (ak ι w)).run P ww=.ok (nE v) ww:=by
 cases dd with
 |slice e =>
  obtain⟨h1,rfl⟩:=hn;rcases h1 with rfl|⟨b,o,l,cap,rfl⟩<;>simp[ak,Op.equalIn,ay hu,nE]
 |pointer e =>
  obtain⟨h1,rfl⟩:=hn;rcases h1 with rfl|⟨b,o,rfl⟩<;>simp[ak,Op.equalIn,ay hu,nE]
 |map k e =>
  obtain⟨h1,rfl⟩:=hn;rcases h1 with rfl|⟨b,rfl⟩<;>simp[ak,Op.equalIn,ay hu,nE]
 |_=>exact hn.elim
theorem AL {dd:TypeDesc}{v w:AV}(hn:DJ dd v w)(ι:En):(∃b,ak ι w=.slice none 0 0/\ak ι v=b/\∃x l c,b=.slice x l c)∨(ak ι w=.pointer none/\∃x,ak ι v=.pointer x)∨(ak ι w=.map none/\∃x,ak ι v=.map x):=by
 cases dd with
 |slice e =>
  obtain⟨h1,rfl⟩:=hn;rcases h1 with rfl|⟨b,o,l,cap,rfl⟩
  ·exact .inl ⟨_,by simp[ak],rfl,none,0,0,by simp[ak]⟩
  ·exact .inl ⟨_,by simp[ak],rfl,some (oU b o l cap),l,cap,by simp[ak]⟩
 |pointer e =>
  obtain⟨h1,rfl⟩:=hn;rcases h1 with rfl|⟨b,o,rfl⟩
  ·exact .inr (.inl ⟨by simp[ak],none,by simp[ak]⟩)
  ·exact .inr (.inl ⟨by simp[ak],some ⟨b,o,none⟩,by simp[ak]⟩)
 |map k e =>
  obtain⟨h1,rfl⟩:=hn;rcases h1 with rfl|⟨b,rfl⟩
  ·exact .inr (.inr ⟨by simp[ak],none,by simp[ak]⟩)
  ·exact .inr (.inr ⟨by simp[ak],some b,by simp[ak]⟩)
 |_=>exact hn.elim
theorem ba.M6 (hg:(ae ops i).guard=none){t yt:TypeId}{x y:Operand}{w:AV}{dd:TypeDesc}{neq:Bool}(ho:(ae ops i).op=.binOp (bif neq then .neq else .eql) t x y yt)(hu:P.underlying t=some dd)(hx:a9 nt T x v)(hy:a9 nt T y w)(hn:DJ dd v w):ba P ops n0 nt i T hp nx G (.bool (Bool.xor neq (nE v))):=by
 refine bQ hg fun B w0 ι a' ww hs=>?_;have hr:(Op.equal t (ak ι v) (ak ι w)).run P ww=.ok (nE v) ww:=Cu 9999 hu hn ι ww;simp only[execOp,ho];rw[a9.at hx hs,a9.at hy hs];cases neq<;>rcases AL hn ι with ⟨_,e1,rfl,x,l,cp,e2⟩|⟨e1,x,e2⟩|⟨e1,x,e2⟩<;>(rw[e1,e2]at hr ⊢;simp[eqGuard,binOp,hr,ak])
noncomputable def sx (place:Nat->Option (Nat×Nat)):List (Nat×AV)->List AV->Option (List AV)
 | [],cs=>some cs
 |p::ps,cs=>match place p.1 with
  |none=>none
  |some (off,size)=>if p.2.cells.length=size/\off+size<=cs.length then sx place ps (rn off p.2.cells cs)else none
theorem qA {place:Nat->Option (Nat×Nat)}(ι:En):∀{ps:List (Nat×AV)}{cs cs':List AV},sx place ps cs=some cs'->Instr.fill place (aq ι cs).toArray (ps.map fun p=>(p.1,ak ι p.2))=some (aq ι cs').toArray
 | [],cs,cs',h=>by cases h;rfl
 |p::ps,cs,cs',h=>by
  unfold sx at h;cases hp:place p.1 with
  |none=>rw[hp]at h;cases h
  |some q =>
   obtain⟨off,size⟩:=q;rw[hp]at h;simp only at h;split at h
   ·rename_i hc;obtain⟨h1,h2⟩:=hc;simp only[zal,Instr.fill,hp];rw[bY];have e1:(aq ι p.2.cells).toArray.size=size:=by simp[aw,h1]
    have e2:(aq ι cs).toArray.size=cs.length:=by simp[aw]
    rw[if_neg (by rw[e1,e2];simp;omega)];rw[<-zdi,Array.toList_zipIdx,qU off,zbt,qg ι _ _ _ (by rw[h1];exact h2),Cq (by rw[h1];exact h2)];exact qA ι h
   ·cases h
def HY (nt:Nat)(T:Tm):List (Nat×Operand)->List (Nat×AV)->Prop
 | [],[]=>True
 |x::xs,v::vs=>x.1=v.1/\a9 nt T x.2 v.2/\HY nt T xs vs
 |_,_=>False
theorem HY.map {ι:En}{a:Act}(ha:ca ι nt T a):∀{xs:List (Nat×Operand)}{vs:List (Nat×AV)},HY nt T xs vs->xs.map (fun p=>(p.1,a.eval p.2))=vs.map fun p=>(p.1,ak ι p.2)
 | [],[],_=>rfl
 |x::xs,v::vs,h=>by
  simp only[zal];rw[h.1,h.2.1 ι a ha,HY.map ha h.2.2]
 | [],_::_,h=>h.elim
 |_::_,[],h=>h.elim
theorem ba.P6 (hg:(ae ops i).guard=none){t:TypeId}{z:AV}{fs:Array Field}{ps:Array (Nat×Operand)}{places:List (Nat×Nat)}{vs:List (Nat×AV)}{cs:List AV}(ho:(ae ops i).op=.build t ps)(hz:zeroOf P t=some z)(hu:P.underlying t=some (.struct fs))
  (hp':fs.toList.mapM (fun f=>(P.info? f.type).map fun i=>(f.offset,i.size))=some places) (hv:HY nt T ps.toList vs) (h:sx (fun i=>places[i]?) vs z.cells=some cs):ba P ops n0 nt i T hp nx G (.agg cs):=by
 obtain⟨j,zv,h1,h2,h3,h4⟩:=cG hz;refine bQ hg fun B w0 ι a w hs=>?_;have ha:=(hs.1.2 ι (ao.refl _ _)).1;have hz':zv.cells=(aq ι z.cells).toArray:=by rw[<-ei 8 zv z h3 ι,bY]
 have hb:P.built t (ps.map fun x=>(x.1,a.eval x.2)).toList=some (aq ι cs).toArray:=by
  unfold Program.built;simp only[h1,hu,h2,hp'];rw[e9,hz',HY.map ha hv,<-qA ι h];congr 1
  funext i
  simp
 simp only[execOp,ho,Sem.run_bind];rw[show (ps.map fun x=>match x with|(i,x)=>(i,a.eval x))=ps.map fun x=>(x.1,a.eval x.2)from rfl,run_build w t _ _ hb];simp[ak]
theorem DL (hg:(ae ops i).guard=none){c:Call}{t:TypeId}{ats:List TypeId}{x:Operand}(ho:(ae ops i).op=.call c)(hc:c.callee=.builtin .len)(hats:c.argTypes.toList=t::ats)(hxa:c.args.toList=[x])(hx:a9 nt T x u){n:Nat}(hl:∀ι w,(Builtin.len_ c.argTypes (ae ops i).type #[ak ι u]).run P w=.ok (.int .i64 (n:Int)) w):ba P ops n0 nt i T hp nx G (.int .i64 (.ofNat n)):=by
 refine bQ hg fun B w0 ι a w hs=>?_
 have hargs:c.args.map a.eval=#[ak ι u]:=by
  rw[map_mk,hxa];simp only[zal,zdo];rw[a9.at hx hs]
 simp only[execOp,ho,resolve,hc,hargs];simp only[Sem.run_bind,Sem.run_pure,Result.andThen_ok,invoke,builtin];rw[hl];simp[ak]
theorem ba.KN (hg:(ae ops i).guard=none){c:Call}{t e:TypeId}{ats:List TypeId}{x:Operand}{n:Nat}(ho:(ae ops i).op=.call c)(hc:c.callee=.builtin .len)(hats:c.argTypes.toList=t::ats)(hxa:c.args.toList=[x])(hu:P.underlying t=some (.slice e))(hx:a9 nt T x u)(hf:(u=.ab/\n=0)∨∃b o cp,u=.dx b o n cp):ba P ops n0 nt i T hp nx G (.int .i64 (.ofNat n)):=by
 have ht:c.argTypes[0]?=some t:=by rw[<-zcj,hats];rfl
 refine DL hg ho hc hats hxa hx fun ι w=>?_;rcases hf with ⟨rfl,rfl⟩|⟨b,o,cp,rfl⟩<;>
 ·simp only[ak,Builtin.len_,ht];simp only[zao,zba,Sem.run_bind,ay hu,Result.andThen_ok];simp[goInt]
theorem ba.HZ (hg:(ae ops i).guard=none){c:Call}{t:TypeId}{ats:List TypeId}{x:Operand}{l n:Nat}(ho:(ae ops i).op=.call c)(hc:c.callee=.builtin .len)(hats:c.argTypes.toList=t::ats)(hxa:c.args.toList=[x])(hu:P.underlying t=some .string)(hx:a9 nt T x (.str l n)):ba P ops n0 nt i T hp nx G (.int .i64 (.ofNat l)):=by
 have ht:c.argTypes[0]?=some t:=by rw[<-zcj,hats];rfl
 refine DL hg ho hc hats hxa hx fun ι w=>?_;simp only[ak,Builtin.len_,ht];simp only[zao,zba,Sem.run_bind,ay hu,Result.andThen_ok];simp[goInt,ByteArray.size,aB]
end
end Go.Rt
namespace Go.Rd
open Go.aK Go.RowKit Go.Rt
inductive R where|ok|bad (n:Nat) (s:SS)|both (a b:Unit->R)
def R.and (a b:R):R:=.both (fun _=>a) (fun _=>b)
def R.Ok:R->Prop
 |.ok=>True
 |.bad _ _=>False
 |.both a b=>(a ()).Ok/\(b ()).Ok
theorem R.eW {a b:R}(h:(a.and b).Ok):a.Ok/\b.Ok:=h
def R.okB:R->Bool
 |.ok=>true
 |.bad _ _=>false
 |.both a b=>bif (a ()).okB then (b ()).okB else false
theorem R.dG:∀{r:R},r.okB=true->r.Ok
 |.ok,_=>trivial
 |.bad _ _,h=>by cases h
 |.both a b,h=>by
  have h:(bif (a ()).okB then (b ()).okB else false)=true:=h;cases ha:(a ()).okB with
  |false=>rw[ha]at h;cases h
  |true=>rw[ha]at h;exact⟨dG ha,dG h⟩
structure Cf where
 P:Program
 Φ:Forms
 nt:Nat
 keys:List (TypeId×KK)
structure Ok (c:Cx) (T:Tm) (G:GH) (Γ:dI) (ρ:bm) (s:SS):Prop where
 sat:Sat ρ s
 q:Q c T G Γ (s.den ρ)
def fO (c:Cx)(T:Tm)(G:GH)(Γ:dI)(s:SS)(ρ:bm)(H:bm->SS->Prop):Prop:=∃ρ' s',dh s.nx ρ ρ'/\s.nx<=s'.nx/\Ok c T G Γ ρ' s'/\H ρ' s'
section
variable {c:Cx}{T:Tm}{G:GH}{Γ:dI}{ρ ρ':bm}{s s':SS}
theorem fO.here {H:bm->SS->Prop}(h:Ok c T G Γ ρ s)(hh:H ρ s):fO c T G Γ s ρ H:=⟨ρ,s,dh.refl _ _,zad _,h,hh⟩
theorem fO.mk {H:bm->SS->Prop}(h1:dh s.nx ρ ρ')(h2:s.nx<=s'.nx)(h:Ok c T G Γ ρ' s')(hh:H ρ' s'):fO c T G Γ s ρ H:=⟨ρ',s',h1,h2,h,hh⟩
theorem fO.bind {H H':bm->SS->Prop}(h:fO c T G Γ s ρ H)(hh:∀ρ' s',dh s.nx ρ ρ'->s.nx<=s'.nx->Ok c T G Γ ρ' s'->H ρ' s'->fO c T G Γ s' ρ' H'):fO c T G Γ s ρ H':=by
 obtain⟨ρ1,s1,a1,n1,o1,h1⟩:=h;obtain⟨ρ2,s2,a2,n2,o2,h2⟩:=hh ρ1 s1 a1 n1 o1 h1;exact⟨ρ2,s2,a1.trans a2 n1,by omega,o2,h2⟩
theorem fO.mono {H H':bm->SS->Prop}(h:fO c T G Γ s ρ H)(hh:∀ρ' s',dh s.nx ρ ρ'->s.nx<=s'.nx->Ok c T G Γ ρ' s'->H ρ' s'->H' ρ' s'):fO c T G Γ s ρ H':=by
 obtain⟨ρ1,s1,a1,n1,o1,h1⟩:=h;exact⟨ρ1,s1,a1,n1,o1,hh _ _ a1 n1 o1 h1⟩
def yL:List (Nat×SV)->Nat->Option SV
 | [],_=>none
 |p::l,k=>bif Nat.beq p.1 k then some p.2 else yL l k
theorem gH:∀{L:List (Nat×SV)}{k:Nat}{v:SV},yL L k=some v->lk (L.map fun p=>(p.1,p.2.den ρ)) k=some (v.den ρ)
 | [],k,v,h=>by cases h
 |p::l,k,v,h=>by
  have h:(bif Nat.beq p.1 k then some p.2 else yL l k)=some v:=h;show (bif Nat.beq p.1 k then some (p.2.den ρ)else lk (l.map fun p=>(p.1,p.2.den ρ)) k)=_;cases hb:Nat.beq p.1 k with
  |true=>rw[hb]at h;cases h;rfl
  |false=>rw[hb]at h;exact gH h
def M7:AV->Option SC
 |.bool b=>some (.bool (.k b))
 |.int k n=>some (.int k (.k n))
 |.str l m=>some (.my l m)
 |.float k b=>some (.xX k b)
 |.c7=>some .c7|.ab=>some .ab|.bg=>some .bg|.cJ=>some .cJ
 |.func (.func f) [] []=>some (.fn f)
 |_=>none
theorem H0 {a:AV}{x:SC}(h:M7 a=some x)(ρ:bm):x.den ρ=a:=by
 unfold M7 at h;split at h<;>first|(cases h;done)|(cases h;simp[SC.den,BE.ev,LE.bk])
def M8:List AV->Option (List SC)
 | []=>some []
 |a::l=>match M7 a,M8 l with|some x,some xs=>some (x::xs)|_,_=>none
theorem H2 (ρ:bm):∀{l:List AV}{xs:List SC},M8 l=some xs->aD ρ xs=l
 | [],xs,h=>by cases h;rfl
 |a::l,xs,h=>by
  unfold M8 at h;split at h
  ·rename_i x xs' h1 h2;cases h;show x.den ρ::aD ρ xs'=_;rw[H0 h1 ρ,H2 ρ h2]
  ·cases h
def tg (a:AV):Option SV:=match a with
 |.agg l=>(M8 l).map (.v true)
 |.cN []=>some .undef
 |a=>(M7 a).map fun x=>.v false [x]
theorem kD {a:AV}{v:SV}(h:tg a=some v)(ρ:bm):v.den ρ=a:=by
 unfold tg at h;split at h
 ·rename_i l;cases hl:M8 l with
  |none=>rw[hl]at h;cases h
  |some xs =>
   rw[hl]at h;cases h;show AV.agg (aD ρ xs)=_;rw[H2 ρ hl]
 ·cases h;rfl
 ·rename_i h1 h2;cases hl:M7 a with
  |none=>rw[hl]at h;cases h
  |some x=>rw[hl]at h;cases h;exact H0 hl ρ
def JR (s:SS)(x:Operand):Option SV:=match x with
 |.tmp t=>yL s.L t
 |.const v=>(iS 8 v).bind tg
 |.func f=>some (.v false [.fn f])
 |.global _=>none
theorem rp {x:Operand}{v:SV}(h:JR s x=some v)(hq:Q c T G Γ (s.den ρ)):a9 c.nt T x (v.den ρ):=by
 cases x with
 |tmp t=>exact PW (hq.at_ _ _ (gH h))
 |const cv =>
  have h:(iS 8 cv).bind tg=some v:=h;cases ha:iS 8 cv with
  |none=>rw[ha]at h;cases h
  |some a =>
   rw[ha]at h;have h:=kD (v:=v) h ρ;rw[h];exact fun ι a' _=>(ei 8 cv a ha ι).symm
 |func f =>
  cases h;exact fun ι a' _=>by simp[SV.den,cj,aD,SC.den,ak,aq,kR,Act.eval]
 |global g=>cases h
def aX (s:SS)(e:LE):Bool:=bif pv 3 s.nx s.fs e then true else bif pv 4 s.nx s.fs e then true else bif pv 5 s.nx s.fs e then true else pv 10 s.nx s.fs e
def fZ (s:SS)(e:LE):Bool:=pv 4 s.nx s.fs e
theorem DM {s:SS}{ρ:bm}{e:LE}(hs:∀f∈s.fs,0<=f.ev ρ)(h:aX s e=true):0<=e.ev ρ:=by
 unfold aX at h;cases h1:pv 3 s.nx s.fs e with
 |true=>exact AJ hs h1
 |false=>cases h2:pv 4 s.nx s.fs e with
  |true=>exact AJ hs h2
  |false=>cases h3:pv 5 s.nx s.fs e with
   |true=>exact AJ hs h3
   |false=>rw[h1,h2,h3]at h;exact AJ hs h
theorem av {e:LE}(h:aX s e=true)(hs:Sat ρ s):0<=e.ev ρ:=DM hs.fs h
theorem md {e:LE}(h:fZ s e=true)(hs:Sat ρ s):0<=e.ev ρ:=AJ hs.fs h
def M9:List (Nat×Bool)->Nat->Option Bool
 | [],_=>none
 |p::l,k=>bif Nat.beq p.1 k then some p.2 else M9 l k
theorem xZ:∀{l:List (Nat×Bool)}{k:Nat}{b:Bool},M9 l k=some b->(k,b)∈l
 | [],k,b,h=>by cases h
 |p::l,k,b,h=>by
  have h:(bif Nat.beq p.1 k then some p.2 else M9 l k)=some b:=h;cases hb:Nat.beq p.1 k with
  |true=>rw[hb]at h;cases h;have:=zab hb;subst this;exact zac ..
  |false=>rw[hb]at h;exact zaa _ (xZ h)
def Na (s:SS)(e:LE):Bool:=s.ne.any fun x=>x.same e||x.same ((LE.k 0).sub e)
theorem H3 {e:LE}(h:Na s e=true)(hs:Sat ρ s):e.ev ρ≠0:=by
 obtain⟨x,h1,h2⟩:=List.any_eq_true.1 h;have:=hs.ne x h1;rw[zaq]at h2;rcases h2 with h2|h2
 ·rw[<-LE.bc h2 ρ];exact this
 ·rw[LE.bc h2 ρ,LE.au,LE.bk]at this;omega
def FO (s:SS)(e:LE):SS:=⟨s.nx,s.L,s.os,s.ty,s.gs,s.fs,s.bs,s.pw,s.ats,s.dB,e::s.ne,s.fz,s.sb⟩
theorem Ok.FO {e:LE}(h:Ok c T G Γ ρ s)(he:e.ev ρ≠0):Ok c T G Γ ρ (FO s e):=⟨⟨h.sat.fs,h.sat.bs,h.sat.pw,h.sat.ats,h.sat.dB,fun f hf=>by
 rcases List.mem_cons.1 hf with rfl|hf
 ·exact he
 ·exact h.sat.ne f hf,h.sat.fz,h.sat.sb⟩,h.q⟩
def kb (s:SS):BE->Option Bool
 |.k b=>some b
 |.v x=>M9 s.bs x
 |.nv x=>(M9 s.bs x).map (!·)
 |.ge e=>bif fZ s e then some true else bif fZ s ((LE.k (-1)).sub e)then some false else none
 |.eq e=>bif fZ s e&&fZ s ((LE.k 0).sub e)then some true else bif Na s e||(fZ s (e.aO (-1))||fZ s ((LE.k (-1)).sub e))then some false else none
 |.ne e=>bif fZ s e&&fZ s ((LE.k 0).sub e)then some false else bif Na s e||(fZ s (e.aO (-1))||fZ s ((LE.k (-1)).sub e))then some true else none
theorem Nb {e:LE}{r:Bool}(h:(bif fZ s e&&fZ s ((LE.k 0).sub e)then some true else bif Na s e||(fZ s (e.aO (-1))||fZ s ((LE.k (-1)).sub e))then some false else none)=some r)(hs:Sat ρ s):decide (e.ev ρ=0)=r:=by
 cases h1:(fZ s e&&fZ s ((LE.k 0).sub e))with
 |true =>
  rw[h1]at h;cases h;rw[za]at h1;have a:=md h1.1 hs;have b:=md h1.2 hs;rw[LE.au,LE.bk]at b;exact decide_eq_true (by omega)
 |false =>
  rw[h1]at h;cases h2:(Na s e||(fZ s (e.aO (-1))||fZ s ((LE.k (-1)).sub e)))with
  |true =>
   rw[h2]at h;cases h;rw[zaq,zaq]at h2;rcases h2 with h2|h2|h2
   ·exact decide_eq_false (H3 h2 hs)
   ·have b:=md h2 hs;rw[LE.aE]at b;exact decide_eq_false (by omega)
   ·have b:=md h2 hs;rw[LE.au,LE.bk]at b;exact decide_eq_false (by omega)
  |false=>rw[h2]at h;cases h
theorem Nc {b:BE}{r:Bool}(h:kb s b=some r)(hs:Sat ρ s):b.ev ρ=r:=by
 cases b with
 |k b=>cases h;rfl
 |v x=>exact hs.bs _ (xZ h)
 |nv x =>
  have h:(M9 s.bs x).map (!·)=some r:=h;cases hl:M9 s.bs x with
  |none=>rw[hl]at h;cases h
  |some q=>rw[hl]at h;cases h;show (!(ρ x).bb)=_;rw[hs.bs _ (xZ hl)]
 |ge e =>
  have h:(bif fZ s e then some true else bif fZ s ((LE.k (-1)).sub e)then some false else none)=some r:=h;cases h1:fZ s e with
  |true=>rw[h1]at h;cases h;exact decide_eq_true (md h1 hs)
  |false =>
   rw[h1]at h;cases h2:fZ s ((LE.k (-1)).sub e)with
   |true=>rw[h2]at h;cases h;have:=md h2 hs;rw[LE.au,LE.bk]at this;exact decide_eq_false (by omega)
   |false=>rw[h2]at h;cases h
 |eq e=>exact Nb h hs
 |ne e =>
  have h:(bif fZ s e&&fZ s ((LE.k 0).sub e)then some false else bif Na s e||(fZ s (e.aO (-1))||fZ s ((LE.k (-1)).sub e))then some true else none)=some r:=h
  have:=Nb (s:=s) (e:=e) (r:=!r) (ρ:=ρ) (by
   cases h1:(fZ s e&&fZ s ((LE.k 0).sub e))with
   |true=>rw[h1]at h;cases h;rfl
   |false =>
    rw[h1]at h;cases h2:(Na s e||(fZ s (e.aO (-1))||fZ s ((LE.k (-1)).sub e)))with
    |true=>rw[h2]at h;cases h;rfl
    |false=>rw[h2]at h;cases h) hs
  show (!decide (e.ev ρ=0))=r;rw[this,Bool.not_not]
def aF (s:SS)(e:LE):SS:=⟨s.nx,s.L,s.os,s.ty,s.gs,e::s.fs,s.bs,s.pw,s.ats,s.dB,s.ne,s.fz,s.sb⟩
theorem Ok.aF {e:LE}(h:Ok c T G Γ ρ s)(he:0<=e.ev ρ):Ok c T G Γ ρ (aF s e):=⟨⟨fun f hf=>by
 rcases List.mem_cons.1 hf with rfl|hf
 ·exact he
 ·exact h.sat.fs f hf,h.sat.bs,h.sat.pw,h.sat.ats,h.sat.dB,h.sat.ne,h.sat.fz,h.sat.sb⟩,h.q⟩
def FP (s:SS)(x:Nat)(b:Bool):SS:=⟨s.nx,s.L,s.os,s.ty,s.gs,s.fs,(x,b)::s.bs,s.pw,s.ats,s.dB,s.ne,s.fz,s.sb⟩
theorem Ok.FP {x:Nat}{b:Bool}(h:Ok c T G Γ ρ s)(he:(ρ x).bb=b):Ok c T G Γ ρ (FP s x b):=⟨⟨h.sat.fs,fun p hp=>by
 rcases List.mem_cons.1 hp with rfl|hp
 ·exact he
 ·exact h.sat.bs p hp,h.sat.pw,h.sat.ats,h.sat.dB,h.sat.ne,h.sat.fz,h.sat.sb⟩,h.q⟩
def oI (s:SS)(e:LE):SS:=bif fZ s e then aF (FO s e) (e.aO (-1))else FO s e
theorem Ok.oI {e:LE}(h:Ok c T G Γ ρ s)(he:e.ev ρ≠0):Ok c T G Γ ρ (oI s e):=by
 unfold Rd.oI;cases hb:fZ s e with
 |false=>exact h.FO he
 |true =>
  have:=md hb h.sat;exact (h.FO he).aF (by rw[LE.aE];omega)
theorem H4 (s:SS)(e:LE):(oI s e).nx=s.nx/\∀ρ,(oI s e).den ρ=s.den ρ:=by
 unfold Rd.oI;cases fZ s e<;>exact⟨rfl,fun _=>rfl⟩
def Nd (s:SS)(b:BE)(r:Bool):SS:=match b,r with
 |.v x,r=>FP s x r
 |.nv x,r=>FP s x (!r)
 |.ge e,true=>aF s e
 |.ge e,false=>aF s ((LE.k (-1)).sub e)
 |.eq e,true=>aF (aF s e) ((LE.k 0).sub e)
 |.ne e,false=>aF (aF s e) ((LE.k 0).sub e)
 |.eq e,false=>oI s e
 |.ne e,true=>oI s e
 |_,_=>s
theorem Ok.Nd {b:BE}{r:Bool}(h:Ok c T G Γ ρ s)(he:b.ev ρ=r):Ok c T G Γ ρ (Nd s b r):=by
 have Pv:∀e:LE,e.ev ρ=0->Ok c T G Γ ρ (Rd.aF (Rd.aF s e) ((LE.k 0).sub e)):=fun e h0=>(h.aF (by omega)).aF (by rw[LE.au,LE.bk];omega);cases b with
 |k b=>cases r<;>exact h
 |v x=>exact h.FP he
 |nv x=>exact h.FP (by rw[<-he];simp[BE.ev])
 |ge e=>cases r with
  |true=>exact h.aF (of_decide_eq_true he)
  |false=>exact h.aF (by have:=of_decide_eq_false he;rw[LE.au,LE.bk];omega)
 |eq e=>cases r with
  |true=>exact Pv e (of_decide_eq_true he)
  |false=>exact h.oI (of_decide_eq_false he)
 |ne e=>cases r with
  |true=>exact h.oI (by have he:(!decide (e.ev ρ=0))=true:=he;simpa using he)
  |false =>
   have he:(!decide (e.ev ρ=0))=false:=he;exact Pv e (by simpa using he)
theorem x5 (s:SS)(b:BE)(r:Bool):(Nd s b r).nx=s.nx/\∀ρ,(Nd s b r).den ρ=s.den ρ:=by
 cases b<;>cases r<;>first|exact⟨rfl,fun _=>rfl⟩|exact H4 _ _
def split (s:SS)(b:BE)(Kt Kf:SS->R):R:=match kb s b with
 |some true=>Kt s
 |some false=>Kf s
 |none=>(Kt (Nd s b true)).and (Kf (Nd s b false))
theorem nF {b:BE}{Kt Kf:SS->R}(h:(split s b Kt Kf).Ok)(hk:Ok c T G Γ ρ s):∃s',s'.nx=s.nx/\(∀ρ,s'.den ρ=s.den ρ)/\Ok c T G Γ ρ s'/\((b.ev ρ=true/\(Kt s').Ok)∨(b.ev ρ=false/\(Kf s').Ok)):=by
 unfold split at h;cases hb:kb s b with
 |some r =>
  have he:=Nc hb hk.sat;rw[hb]at h;cases r with
  |true=>exact⟨s,rfl,fun _=>rfl,hk,.inl ⟨he,h⟩⟩
  |false=>exact⟨s,rfl,fun _=>rfl,hk,.inr ⟨he,h⟩⟩
 |none =>
  rw[hb]at h;obtain⟨h1,h2⟩:=R.eW h;cases he:b.ev ρ with
  |true=>exact⟨_,(x5 s b true).1,(x5 s b true).2,hk.Nd he,.inl ⟨rfl,h1⟩⟩
  |false=>exact⟨_,(x5 s b false).1,(x5 s b false).2,hk.Nd he,.inr ⟨rfl,h2⟩⟩
def aC (s:SS):SS:=⟨s.nx+1,s.L,s.os,s.ty,s.gs,s.fs,s.bs,s.pw,s.ats,s.dB,s.ne,s.fz,s.sb⟩
def fresh (s:SS)(K:Nat->SS->R):R:=bif s.ok then K s.nx (aC s)else .bad 1 s
theorem az {K:Nat->SS->R}(h:(fresh s K).Ok)(hk:Ok c T G Γ ρ s)(u:U):(K s.nx (aC s)).Ok/\dh s.nx ρ (ρ.up s.nx u)/\Ok c T G Γ (ρ.up s.nx u) (aC s)/\(ρ.up s.nx u) s.nx=u:=by
 unfold fresh at h;cases hs:s.ok with
 |false=>rw[hs]at h;cases h
 |true =>
  rw[hs]at h;have ha:=HN ρ s.nx u;obtain⟨e1,e2⟩:=SS.cg hs ha;have:=e2 hk.sat
  exact⟨h,ha,⟨⟨this.fs,this.bs,this.pw,this.ats,this.dB,this.ne,this.fz,this.sb⟩,by
   have hq:=hk.q;rw[<-e1]at hq
   exact hq⟩,dt _ _ _⟩
def bL (s:SS)(f:dW):SS:=⟨s.nx,s.L,s.os,f::s.ty,s.gs,s.fs,s.bs,s.pw,s.ats,s.dB,s.ne,s.fz,s.sb⟩
theorem Ok.bL {f:dW}(h:Ok c T G Γ ρ s)(hf:fF c.P c.Φ G Γ (f.den ρ)):Ok c T G Γ ρ (bL s f):=⟨⟨h.sat.fs,h.sat.bs,h.sat.pw,h.sat.ats,h.sat.dB,h.sat.ne,h.sat.fz,h.sat.sb⟩,by
 have q:=h.q;refine⟨q.ml,q.at_,q.xU,q.rl,q.grow,q.own,q.new,q.nd,q.ht,fun x hx=>?_,q.gs⟩;rcases List.mem_cons.1 hx with rfl|hx
 ·exact hf
 ·exact q.ty x hx⟩
def qB (s:SS)(p:Nat×LE×LE):SS:=⟨s.nx,s.L,s.os,s.ty,s.gs,s.fs,s.bs,p::s.pw,s.ats,s.dB,s.ne,s.fz,s.sb⟩
theorem Ok.qB {p:Nat×LE×LE}(h:Ok c T G Γ ρ s)(hp:0<=p.2.1.ev ρ/\((((ρ p.1).ns.take (p.2.1.ev ρ).toNat).sum:Nat):Int)+p.2.1.ev ρ=p.2.2.ev ρ):Ok c T G Γ ρ (qB s p):=⟨⟨h.sat.fs,h.sat.bs,fun q hq=>by
 rcases List.mem_cons.1 hq with rfl|hq
 ·exact hp
 ·exact h.sat.pw q hq,h.sat.ats,h.sat.dB,h.sat.ne,h.sat.fz,h.sat.sb⟩,h.q⟩
def mq (s:SS)(p:Nat×SC×LE):SS:=⟨s.nx,s.L,s.os,s.ty,s.gs,s.fs,s.bs,s.pw,p::s.ats,s.dB,s.ne,s.fz,s.sb⟩
theorem Ok.mq {p:Nat×SC×LE}(h:Ok c T G Γ ρ s)(hp:P4 ρ p):Ok c T G Γ ρ (mq s p):=⟨⟨h.sat.fs,h.sat.bs,h.sat.pw,fun q hq=>by
 rcases List.mem_cons.1 hq with rfl|hq
 ·exact hp
 ·exact h.sat.ats q hq,h.sat.dB,h.sat.ne,h.sat.fz,h.sat.sb⟩,h.q⟩
def wC (s:SS)(p:Nat×LE×LE):SS:=⟨s.nx,s.L,s.os,s.ty,s.gs,s.fs,s.bs,s.pw,s.ats,p::s.dB,s.ne,s.fz,s.sb⟩
theorem Ok.wC {p:Nat×LE×LE}(h:Ok c T G Γ ρ s)(hp:0<=p.2.1.ev ρ/\(ρ p.1).gg.fz=true/\(((ρ p.1).gg.fl (p.2.1.ev ρ).toNat:Nat):Int)=p.2.2.ev ρ):Ok c T G Γ ρ (wC s p):=⟨⟨h.sat.fs,h.sat.bs,h.sat.pw,h.sat.ats,fun q hq=>by
 rcases List.mem_cons.1 hq with rfl|hq
 ·exact hp
 ·exact h.sat.dB q hq,h.sat.ne,h.sat.fz,h.sat.sb⟩,h.q⟩
def KO (s:SS)(p:Nat×Nat×Bool):SS:=⟨s.nx,s.L,s.os,s.ty,p::s.gs,s.fs,s.bs,s.pw,s.ats,s.dB,s.ne,s.fz,s.sb⟩
theorem Ok.KO {p:Nat×Nat×Bool}(h:Ok c T G Γ ρ s)(hp:ig ρ p.1<Γ.ng/\Γ.gd (ig ρ p.1)=(ρ p.2.1).gg/\(p.2.2=true->(ig ρ p.1∈c.Sg∨c.Γ0.ng<=ig ρ p.1)/\(ρ p.2.1).gg.fz=false/\0<ig ρ p.1)):Ok c T G Γ ρ (KO s p):=⟨⟨h.sat.fs,h.sat.bs,h.sat.pw,h.sat.ats,h.sat.dB,h.sat.ne,h.sat.fz,h.sat.sb⟩,by
 have q:=h.q;refine⟨q.ml,q.at_,q.xU,q.rl,q.grow,q.own,q.new,q.nd,q.ht,q.ty,fun x hx=>?_⟩;rcases List.mem_cons.1 hx with rfl|hx
 ·exact hp
 ·exact q.gs x hx⟩
def ghost:List (Nat×Nat×Bool)->Nat->Option Nat
 | [],_=>none
 |p::l,g=>bif Nat.beq p.1 g then some p.2.1 else ghost l g
theorem rq:∀{l:List (Nat×Nat×Bool)}{g d:Nat},ghost l g=some d->∃w,(g,d,w)∈l
 | [],g,d,h=>by cases h
 |p::l,g,d,h=>by
  have h:(bif Nat.beq p.1 g then some p.2.1 else ghost l g)=some d:=h;cases hb:Nat.beq p.1 g with
  |true=>rw[hb]at h;cases h;have:=zab hb;subst this;exact⟨p.2.2,zac ..⟩
  |false=>rw[hb]at h;obtain⟨w,hw⟩:=rq h;exact⟨w,zaa _ hw⟩
theorem bz {g d:Nat}(h:ghost s.gs g=some d)(hk:Ok c T G Γ ρ s):Γ.gd (ig ρ g)=(ρ d).gg:=by
 obtain⟨w,hw⟩:=rq h;exact (hk.q.gs (ig ρ g,(ρ d).gg,w) (List.mem_map.2 ⟨(g,d,w),hw,rfl⟩)).2.1
theorem th {f:TF}(h:fF c.P c.Φ G Γ f):cD f.v=true:=by
 cases f with
 |sl v cc g ns=>rcases h.form with ⟨h,_⟩|⟨b,o,cp,h⟩<;>(show cD v=true;rw[h];rfl)
 |pt v cc g=>obtain⟨b,L,h,_⟩:=h;show cD v=true;rw[h];rfl
 |mp v cc g=>obtain⟨b,h,_⟩:=h;show cD v=true;rw[h];rfl
 |el v c j off x=>obtain⟨b,o,l,cap,el,size,C,h,_⟩:=h;show cD v=true;rw[h];rfl
def wD (Φ:Forms)(g cc:Nat):Nat:=bif Φ.dep cc then g else 0
theorem rr {Φ:Forms}{d:Gd}{g cc:Nat}(hv:Φ.via cc=false):gi Φ d (ig ρ g) cc=ig ρ (wD Φ g cc):=by
 unfold gi wD;rw[hv];cases Φ.dep cc<;>rfl
def x6:List (Nat×LE×LE)->Nat->LE->Option LE
 | [],_,_=>none
 |p::l,d,j=>bif Nat.beq p.1 d&&p.2.1.same j then some p.2.2 else x6 l d j
theorem qC:∀{l:List (Nat×LE×LE)}{d:Nat}{j e:LE},x6 l d j=some e->∃j',(d,j',e)∈l/\∀ρ,j'.ev ρ=j.ev ρ
 | [],d,j,e,h=>by cases h
 |p::l,d,j,e,h=>by
  have h:(bif Nat.beq p.1 d&&p.2.1.same j then some p.2.2 else x6 l d j)=some e:=h;cases hb:(Nat.beq p.1 d&&p.2.1.same j)with
  |true =>
   rw[hb]at h;cases h;rw[za]at hb;have:=zab hb.1;subst this;exact⟨p.2.1,zac ..,LE.bc hb.2⟩
  |false=>rw[hb]at h;obtain⟨j',h1,h2⟩:=qC h;exact⟨j',zaa _ h1,h2⟩
def P7 (cf:Cf)(g cc:Nat)(s:SS)(K:Nat->SS->R):R:=bif cf.Φ.via cc then .bad 2 s else fresh s fun x s=>K x (bL s (.sl x cc (wD cf.Φ g cc)))
def plain (Φ:Forms)(cc x:Nat):Option Nat:=bif Φ.fV cc then none else some x
def pI (cf:Cf)(g:Nat)(d:Option Nat)(j:LE)(k:K2)(s:SS)(K:SC->Option Nat->SS->R):R:=match k with
 |.int kd=>fresh s fun x s=>K (.int kd (.a (.z x))) none s
 |.nat b=>fresh s fun x s=>K (.int .i64 (.a (.n x))) none (match d with|some d=>aF s (((LE.a (.gn d b)).sub (.a (.n x))).aO (-1))|none=>s)
 |.pos b=>fresh s fun x s=>K (.int .i64 (.a (.n x))) none (match d with|some d=>aF (aF s ((LE.a (.n x)).aO (-1))) ((LE.a (.gn d b)).sub (.a (.n x)))|none=>aF s ((LE.a (.n x)).aO (-1)))
 |.str=>fresh s fun x s=>K (.str x) none s
 |.rf=>fresh s fun x s=>K (.str x) none (match d with|some d=>mq s (d,.str x,j)|none=>s)
 |.vt b=>fresh s fun x s=>K (.str x) none (aF s ((LE.k b).sub (.a (.sl x))))
 |.bool=>fresh s fun x s=>K (.bool (.v x)) none s
 |.px kd=>fresh s fun x s=>K (.px kd x) none s
 |.sl cc=>P7 cf g cc s fun x s=>K (.ref x) (plain cf.Φ cc x) s
 |.AB cc b=>P7 cf g cc s fun x s=>K (.ref x) (plain cf.Φ cc x) (aF s ((LE.k b).sub (.a (.len x))))
 |.AD cc b=>P7 cf g cc s fun x s=>K (.ref x) (plain cf.Φ cc x) (match d with|some d=>aF s ((LE.a (.gn d b)).sub (.a (.len x)))|none=>s)
 |.yK cc b=>P7 cf g cc s fun x s=>K (.ref x) (plain cf.Φ cc x) (match d with|some d=>aF (aF s ((LE.a (.gn d b)).sub (.a (.len x)))) ((LE.a (.len x)).sub (.a (.gn d b)))|none=>s)
 |.AE cc=>P7 cf g cc s fun x s=>K (.ref x) (plain cf.Φ cc x) (match d with|some d=>(match x6 s.dB d j with|some e=>aF (aF s (e.sub (.a (.len x)))) ((LE.a (.len x)).sub e)|none=>wC s (d,j,.a (.len x)))|none=>s)
 |.ptr cc=>V1 cf g cc s K
 |.FJ cc=>(K .c7 none s).and (V1 cf g cc s K)
 |.mp cc=>V2 cf g cc s K
 |.FL cc=>(K .bg none s).and (V2 cf g cc s K)
 |.bad=>.bad 3 s
 where
 V1 (cf:Cf) (g cc:Nat) (s:SS) (K:SC->Option Nat->SS->R):R:=bif cf.Φ.via cc
  then fresh s fun y s=>fresh (s) fun dv s=>fresh s fun x s=>K (.ref x) none (KO (bL s (.pt x cc (y+1))) (y+1,dv,false))
  else fresh s fun x s=>K (.ref x) none (bL s (.pt x cc (wD cf.Φ g cc)))
 V2 (cf:Cf) (g cc:Nat) (s:SS) (K:SC->Option Nat->SS->R):R:=bif cf.Φ.via cc then .bad 2 s else fresh s fun x s=>K (.ref x) none (bL s (.mp x cc (wD cf.Φ g cc)))
end
end Go.Rd
namespace Go.Rd
open Go.aK Go.RowKit Go.Rt
def H5 (ρ:bm):Option Nat->Nat|some y=>(ρ y).ns.sum+(ρ y).ns.length|none=>0
def AM (n:Nat):Option Nat->Bool|some y=>Nat.blt y n|none=>true
section
variable {c:Cx}{T:Tm}{G:GH}{Γ:dI}{ρ ρ':bm}{s s':SS}{cf:Cf}
theorem jh {x n:Nat}(h:x<n):Nat.blt x n=true:=zbs h
theorem dC (n:Nat):Nat.blt n (n+1)=true:=jh (zdt n)
theorem P8 {cc:Nat}{v:AV}{g:Nat}(h:fF c.P c.Φ G Γ (.pt v cc g))(ht:HT c.P c.Φ G Γ):g<Γ.ng:=by
 obtain⟨b,L,h1,h2,h3⟩:=h;exact (ht.b _ _ h2).1.1
theorem uI {g cc:Nat}{K:Nat->SS->R}{v:AV}{ns:List Nat}{d:Gd}(h:(P7 cf g cc s K).Ok)(hΦ:cf.Φ=c.Φ)(hk:Ok c T G Γ ρ s)(hg:bG s.nx g=true)(ht:fF c.P c.Φ G Γ (.sl v cc (gi c.Φ d (ig ρ g) cc) ns)) :
  ∃ρ' s',(K s.nx s').Ok/\dh s.nx ρ ρ'/\s'.nx=s.nx+1/\Ok c T G Γ ρ' s'/\(ρ' s.nx).vv=v/\(ρ' s.nx).ns=ns/\s'.dB=s.dB:=by
 unfold P7 at h;rw[hΦ]at h;cases hv:c.Φ.via cc with
 |true=>rw[hv]at h;cases h
 |false =>
  rw[hv]at h;simp only[pI,cond_true,cond_false]at h;obtain⟨h1,h2,h3,h4⟩:=az h hk (.v v ns);have hr:cD v=true:=th ht;have e1:(ρ.up s.nx (.v v ns) s.nx).vv=v:=by rw[h4];exact U.j6 hr
  have e2:(ρ.up s.nx (.v v ns) s.nx).ns=ns:=by rw[h4];exact U.lr ht.1
  refine⟨_,_,h1,h2,rfl,h3.bL ?_,e1,e2,rfl⟩;show fF c.P c.Φ G Γ (.sl _ cc (ig _ (wD c.Φ g cc)) _)
  have:ig (ρ.up s.nx (.v v ns)) (wD c.Φ g cc)=gi c.Φ d (ig ρ g) cc:=by
   rw[rr hv];unfold wD;cases c.Φ.dep cc with
   |true=>exact bR h2 hg
   |false=>rfl
  rw[e1,e2,this];exact ht
def WK (c:Cx)(T:Tm)(G:GH)(Γ:dI)(s:SS)(ρ:bm)(v:AV)(w:Nat)(K:SC->Option Nat->SS->R):Prop :=
 fO c T G Γ s ρ fun ρ' s'=>∃x o,(K x o s').Ok/\x.den ρ'=v/\x.lt s'.nx=true/\H5 ρ' o=w/\AM s'.nx o=true
theorem gC {Φ:Forms}{cc x:Nat}{v:AV}{g:Nat}{ns:List Nat}(e:(ρ x).ns=ns):H5 ρ (plain Φ cc x)=jj Φ [.sl v cc g ns]:=by
 unfold plain;simp only[jj,sw,zal,zdo,zda,List.sum_nil];cases Φ.fV cc with
 |true=>rfl
 |false=>simp[H5,e]
theorem ik {Φ:Forms}{cc x n:Nat}(h:x<n):AM n (plain Φ cc x)=true:=by
 unfold plain;cases Φ.fV cc with
 |true=>rfl
 |false=>exact jh h
theorem H6 {g cc:Nat}{K:SC->Option Nat->SS->R}{v:AV}{d:Gd}(h:(pI.V1 cf g cc s K).Ok)(hΦ:cf.Φ=c.Φ)(hk:Ok c T G Γ ρ s)(hg:bG s.nx g=true)(ht:fF c.P c.Φ G Γ (.pt v cc (gi c.Φ d (ig ρ g) cc))):WK c T G Γ s ρ v 0 K:=by
 unfold pI.V1 at h;rw[hΦ]at h;have hr:cD v=true:=th ht;cases hv:c.Φ.via cc with
 |false =>
  rw[hv]at h;simp only[pI,cond_true,cond_false]at h;obtain⟨h1,h2,h3,h4⟩:=az h hk (.v v []);have e1:(ρ.up s.nx (.v v []) s.nx).vv=v:=by rw[h4];exact U.j6 hr
  refine fO.mk h2 (by show s.nx<=s.nx+1;omega) (h3.bL ?_) ⟨_,_,h1,e1,dC _,rfl,rfl⟩;show fF c.P c.Φ G Γ (.pt _ cc (ig _ (wD c.Φ g cc)))
  have:ig (ρ.up s.nx (.v v [])) (wD c.Φ g cc)=gi c.Φ d (ig ρ g) cc:=by
   rw[rr hv];unfold wD;cases c.Φ.dep cc with
   |true=>exact bR h2 hg
   |false=>rfl
  rw[e1,this];exact ht
 |true =>
  rw[hv]at h;have egi:gi c.Φ d (ig ρ g) cc=d.sub:=by unfold gi;rw[hv];rfl
  rw[egi]at ht;simp only[cond_true,cond_false]at h;obtain⟨h1,a1,o1,e1⟩:=az h hk (.n d.sub);obtain⟨h2,a2,o2,e2⟩:=az h1 o1 (.g (Γ.gd d.sub));obtain⟨h3,a3,o3,e3⟩:=az h2 o2 (.v v []);have k1:(((ρ.up s.nx (.n d.sub)).up (s.nx+1) (.g (Γ.gd d.sub))).up (s.nx+2) (.v v [])) s.nx=.n d.sub:=by simp[bm.up]
  have k2:(((ρ.up s.nx (.n d.sub)).up (s.nx+1) (.g (Γ.gd d.sub))).up (s.nx+2) (.v v [])) (s.nx+1)=.g (Γ.gd d.sub):=by simp[bm.up]
  have k3:(((ρ.up s.nx (.n d.sub)).up (s.nx+1) (.g (Γ.gd d.sub))).up (s.nx+2) (.v v [])) (s.nx+2)=.v v []:=by simp[bm.up]
  have a:dh s.nx ρ (((ρ.up s.nx (.n d.sub)).up (s.nx+1) (.g (Γ.gd d.sub))).up (s.nx+2) (.v v [])):=fun i hi=>by
   simp only[bm.up];rw[if_neg (by omega),if_neg (by omega),if_neg (by omega)]
  refine fO.mk a (by show s.nx<=s.nx+1+1+1;omega) ((o3.bL ?_).KO ⟨?_,?_,fun hf=>by cases hf⟩) ⟨_,_,h3,?_,dC _,rfl,rfl⟩
  ·show fF c.P c.Φ G Γ (.pt ((((ρ.up s.nx (.n d.sub)).up (s.nx+1) (.g (Γ.gd d.sub))).up (s.nx+2) (.v v [])) (s.nx+2)).vv cc ((((ρ.up s.nx (.n d.sub)).up (s.nx+1) (.g (Γ.gd d.sub))).up (s.nx+2) (.v v [])) s.nx).nn);rw[k1,k3,U.j6 hr];exact ht
  ·show ((((ρ.up s.nx (.n d.sub)).up (s.nx+1) (.g (Γ.gd d.sub))).up (s.nx+2) (.v v [])) s.nx).nn<Γ.ng;rw[k1];exact P8 ht hk.q.ht
  ·show Γ.gd ((((ρ.up s.nx (.n d.sub)).up (s.nx+1) (.g (Γ.gd d.sub))).up (s.nx+2) (.v v [])) s.nx).nn=((((ρ.up s.nx (.n d.sub)).up (s.nx+1) (.g (Γ.gd d.sub))).up (s.nx+2) (.v v [])) (s.nx+1)).gg;rw[k1,k2];rfl
  ·show ((((ρ.up s.nx (.n d.sub)).up (s.nx+1) (.g (Γ.gd d.sub))).up (s.nx+2) (.v v [])) (s.nx+2)).vv=v;rw[k3];exact U.j6 hr
theorem H7 {g cc:Nat}{K:SC->Option Nat->SS->R}{v:AV}{d:Gd}(h:(pI.V2 cf g cc s K).Ok)(hΦ:cf.Φ=c.Φ)(hk:Ok c T G Γ ρ s)(hg:bG s.nx g=true)(ht:fF c.P c.Φ G Γ (.mp v cc (gi c.Φ d (ig ρ g) cc))):WK c T G Γ s ρ v 0 K:=by
 unfold pI.V2 at h;rw[hΦ]at h;have hr:cD v=true:=th ht;cases hv:c.Φ.via cc with
 |false =>
  rw[hv]at h;simp only[pI,cond_true,cond_false]at h;obtain⟨h1,h2,h3,h4⟩:=az h hk (.v v []);have e1:(ρ.up s.nx (.v v []) s.nx).vv=v:=by rw[h4];exact U.j6 hr
  refine fO.mk h2 (by show s.nx<=s.nx+1;omega) (h3.bL ?_) ⟨_,_,h1,e1,dC _,rfl,rfl⟩;show fF c.P c.Φ G Γ (.mp _ cc (ig _ (wD c.Φ g cc)))
  have:ig (ρ.up s.nx (.v v [])) (wD c.Φ g cc)=gi c.Φ d (ig ρ g) cc:=by
   rw[rr hv];unfold wD;cases c.Φ.dep cc with
   |true=>exact bR h2 hg
   |false=>rfl
  rw[e1,this];exact ht
 |true=>rw[hv]at h;cases h
theorem pB {g J:Nat}{d:Option Nat}{j:LE}{k:K2}{K:SC->Option Nat->SS->R}{v:AV}{fs:List TF}(h:(pI cf g d j k s K).Ok)(hΦ:cf.Φ=c.Φ)(hk:Ok c T G Γ ρ s)(hg:bG s.nx g=true)
  (hd:∀dv,d=some dv->dv<s.nx/\Γ.gd (ig ρ g)=(ρ dv).gg) (hj:j.lt s.nx=true/\0<=j.ev ρ/\J=(j.ev ρ).toNat) (hv:Kv c.Φ (Γ.gd (ig ρ g)) (ig ρ g) J k v fs) (hf:∀f∈fs,fF c.P c.Φ G Γ f):WK c T G Γ s ρ v (jj c.Φ fs) K:=by
 obtain⟨hj1,hj2,hj3⟩:=hj;cases k with
 |int kd =>
  obtain⟨⟨z,rfl⟩,rfl⟩:=hv;simp only[pI,cond_true,cond_false]at h;obtain⟨h1,h2,h3,h4⟩:=az h hk (.z z);exact fO.mk h2 (zan _) h3 ⟨_,_,h1,by simp only[SC.den,LE.aV,Rd.At.ev];rw[h4];rfl,by simp[SC.lt,LE.lt,LE.a,aC,At.id,dC],rfl,rfl⟩
 |nat b =>
  obtain⟨⟨n,rfl,hlt⟩,rfl⟩:=hv;simp only[pI,cond_true,cond_false]at h;obtain⟨h1,h2,h3,h4⟩:=az h hk (.n n);have hev:(LE.a (.n s.nx)).ev (ρ.up s.nx (.n n))=n:=by rw[LE.aV];show ((ρ.up s.nx (.n n) s.nx).nn:Int)=n;rw[h4];rfl
  have hden:SC.den (ρ.up s.nx (.n n)) (.int .i64 (.a (.n s.nx)))=.int .i64 (.ofNat n):=by simp only[SC.den,hev];rfl
  cases d with
  |none=>exact fO.mk h2 (zan _) h3 ⟨_,_,h1,hden,by simp[SC.lt,LE.lt,LE.a,aC,At.id,dC],rfl,rfl⟩
  |some dv =>
   obtain⟨d1,d2⟩:=hd dv rfl;refine fO.mk h2 (zan _) (h3.aF ?_) ⟨_,_,h1,hden,by simp[SC.lt,LE.lt,LE.a,aC,aF,At.id,dC],rfl,rfl⟩;rw[LE.aE,LE.au,hev,LE.aV];show 0<=(((ρ.up s.nx (.n n) dv).gg.n b:Nat):Int)-n+-1;rw[h2 dv d1,<-d2];omega
 |pos b =>
  obtain⟨⟨n,rfl,h1n,hlt⟩,rfl⟩:=hv;simp only[pI,cond_true,cond_false]at h;obtain⟨h1,h2,h3,h4⟩:=az h hk (.n n);have hev:(LE.a (.n s.nx)).ev (ρ.up s.nx (.n n))=n:=by rw[LE.aV];show ((ρ.up s.nx (.n n) s.nx).nn:Int)=n;rw[h4];rfl
  have hden:SC.den (ρ.up s.nx (.n n)) (.int .i64 (.a (.n s.nx)))=.int .i64 (.ofNat n):=by simp only[SC.den,hev];rfl
  have h3':=h3.aF (e:=(LE.a (.n s.nx)).aO (-1)) (by rw[LE.aE,hev];omega);cases d with
  |none=>exact fO.mk h2 (zan _) h3' ⟨_,_,h1,hden,by simp[SC.lt,LE.lt,LE.a,aC,aF,At.id,dC],rfl,rfl⟩
  |some dv =>
   obtain⟨d1,d2⟩:=hd dv rfl;refine fO.mk h2 (zan _) (h3'.aF ?_) ⟨_,_,h1,hden,by simp[SC.lt,LE.lt,LE.a,aC,aF,At.id,dC],rfl,rfl⟩;rw[LE.au,hev,LE.aV];show 0<=(((ρ.up s.nx (.n n) dv).gg.n b:Nat):Int)-n;rw[h2 dv d1,<-d2];omega
 |str =>
  obtain⟨⟨l,n,rfl,hlim⟩,rfl⟩:=hv;simp only[pI,cond_true,cond_false]at h;obtain⟨h1,h2,h3,h4⟩:=az h hk (.s l n);exact fO.mk h2 (zan _) h3 ⟨_,_,h1,by simp only[SC.den];rw[h4,U.oF hlim];rfl,by simp[SC.lt,aC,dC],rfl,rfl⟩
 |vt b =>
  obtain⟨⟨l,n,rfl,hlim,hlb⟩,rfl⟩:=hv;simp only[pI,cond_true,cond_false]at h;obtain⟨h1,h2,h3,h4⟩:=az h hk (.s l n);refine fO.mk h2 (zan _) (h3.aF ?_) ⟨_,_,h1,by simp only[SC.den];rw[h4,U.oF hlim];rfl,by simp[SC.lt,aC,aF,dC],rfl,rfl⟩;rw[LE.au,LE.bk,LE.aV];show 0<=(b:Int)-(((ρ.up s.nx (.s l n)) s.nx).sl:Int);rw[h4,U.oF hlim];omega
 |rf =>
  obtain⟨⟨l,n,rfl,hlim,hat⟩,rfl⟩:=hv;simp only[pI,cond_true,cond_false]at h;obtain⟨h1,h2,h3,h4⟩:=az h hk (.s l n);have hden:SC.den (ρ.up s.nx (.s l n)) (.str s.nx)=.str l n:=by simp only[SC.den];rw[h4,U.oF hlim];rfl
  cases d with
  |none=>exact fO.mk h2 (zan _) h3 ⟨_,_,h1,hden,by simp[SC.lt,aC,dC],rfl,rfl⟩
  |some dv =>
   obtain⟨d1,d2⟩:=hd dv rfl;refine fO.mk h2 (zan _) (h3.mq ?_) ⟨_,_,h1,hden,by simp[SC.lt,aC,mq,dC],rfl,rfl⟩;refine .inl ?_;show 0<=j.ev _/\Bu (ρ.up s.nx (.s l n) dv).gg (SC.den (ρ.up s.nx (.s l n)) (.str s.nx))=some (j.ev _).toNat;rw[LE.cg h2 hj1,h2 dv d1,<-d2,hden];exact⟨hj2,by rw[<-hj3];exact hat⟩
 |bool =>
  obtain⟨⟨b,rfl⟩,rfl⟩:=hv;simp only[pI,cond_true,cond_false]at h;obtain⟨h1,h2,h3,h4⟩:=az h hk (.b b);exact fO.mk h2 (zan _) h3 ⟨_,_,h1,by simp only[SC.den,BE.ev];rw[h4];rfl,by simp[SC.lt,BE.lt,aC,dC],rfl,rfl⟩
 |px kd =>
  obtain⟨⟨b,rfl⟩,rfl⟩:=hv;simp only[pI,cond_true,cond_false]at h;obtain⟨h1,h2,h3,h4⟩:=az h hk (.n b);exact fO.mk h2 (zan _) h3 ⟨_,_,h1,by simp only[SC.den];rw[h4];rfl,by simp[SC.lt,aC,dC],rfl,rfl⟩
 |sl cc =>
  obtain⟨ns,rfl⟩:=hv;simp only[pI]at h;obtain⟨ρ1,s1,h1,h2,h3,h4,h5,h6,_⟩:=uI h hΦ hk hg (hf _ (zbr _));rw[hΦ]at h1;exact fO.mk h2 (by omega) h4 ⟨_,_,h1,h5,by simp only[SC.lt];exact jh (by omega),gC h6,ik (by omega)⟩
 |AB cc b =>
  obtain⟨ns,rfl,hle⟩:=hv;simp only[pI]at h;obtain⟨ρ1,s1,h1,h2,h3,h4,h5,h6,_⟩:=uI h hΦ hk hg (hf _ (zbr _));rw[hΦ]at h1;refine fO.mk h2 (by show s.nx<=s1.nx;omega) (h4.aF ?_) ⟨_,_,h1,h5,by simp only[SC.lt];exact jh (by show s.nx<s1.nx;omega),gC h6,ik (by show s.nx<s1.nx;omega)⟩;rw[LE.au,LE.bk,LE.aV];show 0<=(b:Int)-((ρ1 s.nx).ns.length:Int);rw[h6];omega
 |AD cc b =>
  obtain⟨ns,rfl,hle⟩:=hv;simp only[pI]at h;obtain⟨ρ1,s1,h1,h2,h3,h4,h5,h6,_⟩:=uI h hΦ hk hg (hf _ (zbr _));rw[hΦ]at h1;cases d with
  |none=>exact fO.mk h2 (by omega) h4 ⟨_,_,h1,h5,by simp only[SC.lt];exact jh (by omega),gC h6,ik (by omega)⟩
  |some dv =>
   obtain⟨d1,d2⟩:=hd dv rfl;refine fO.mk h2 (by show s.nx<=s1.nx;omega) (h4.aF ?_) ⟨_,_,h1,h5,by simp only[SC.lt];exact jh (by show s.nx<s1.nx;omega),gC h6,ik (by show s.nx<s1.nx;omega)⟩;rw[LE.au,LE.aV,LE.aV];show 0<=(((ρ1 dv).gg.n b:Nat):Int)-((ρ1 s.nx).ns.length:Int);rw[h6,h2 dv d1,<-d2];omega
 |yK cc b =>
  obtain⟨ns,rfl,hz,hle⟩:=hv;simp only[pI]at h;obtain⟨ρ1,s1,h1,h2,h3,h4,h5,h6,_⟩:=uI h hΦ hk hg (hf _ (zbr _));rw[hΦ]at h1;cases d with
  |none=>exact fO.mk h2 (by omega) h4 ⟨_,_,h1,h5,by simp only[SC.lt];exact jh (by omega),gC h6,ik (by omega)⟩
  |some dv =>
   obtain⟨d1,d2⟩:=hd dv rfl;refine fO.mk h2 (by show s.nx<=s1.nx;omega) ((h4.aF ?_).aF ?_) ⟨_,_,h1,h5,by simp only[SC.lt];exact jh (by show s.nx<s1.nx;omega),gC h6,ik (by show s.nx<s1.nx;omega)⟩
   ·rw[LE.au,LE.aV,LE.aV];show 0<=(((ρ1 dv).gg.n b:Nat):Int)-((ρ1 s.nx).ns.length:Int);rw[h6,h2 dv d1,<-d2];omega
   ·rw[LE.au,LE.aV,LE.aV];show 0<=((ρ1 s.nx).ns.length:Int)-(((ρ1 dv).gg.n b:Nat):Int);rw[h6,h2 dv d1,<-d2];omega
 |AE cc =>
  obtain⟨ns,rfl,hz,hle⟩:=hv;simp only[pI]at h;obtain⟨ρ1,s1,h1,h2,h3,h4,h5,h6,h7⟩:=uI h hΦ hk hg (hf _ (zbr _));rw[hΦ]at h1;cases d with
  |none=>exact fO.mk h2 (by omega) h4 ⟨_,_,h1,h5,by simp only[SC.lt];exact jh (by omega),gC h6,ik (by omega)⟩
  |some dv =>
   obtain⟨d1,d2⟩:=hd dv rfl;have hlen:(LE.a (.len s.nx)).ev ρ1=(ns.length:Int):=by rw[LE.aV];show (((ρ1 s.nx).ns.length:Nat):Int)=_;rw[h6]
   simp only at h1;cases hl:x6 s1.dB dv j with
   |none =>
    rw[hl]at h1;refine fO.mk h2 (by show s.nx<=s1.nx;omega) (h4.wC ?_) ⟨_,_,h1,h5,by simp only[SC.lt];exact jh (by show s.nx<s1.nx;omega),gC h6,ik (by show s.nx<s1.nx;omega)⟩;show 0<=j.ev ρ1/\(ρ1 dv).gg.fz=true/\(((ρ1 dv).gg.fl (j.ev ρ1).toNat:Nat):Int)=(LE.a (.len s.nx)).ev ρ1;rw[LE.cg h2 hj1,h2 dv d1,<-d2,hlen,<-hj3,hle];exact⟨hj2,hz,rfl⟩
   |some e =>
    rw[hl]at h1;obtain⟨j',m1,m2⟩:=qC hl;obtain⟨_,_,k3⟩:=h4.sat.dB _ m1;have k3:(((ρ1 dv).gg.fl (j'.ev ρ1).toNat:Nat):Int)=e.ev ρ1:=k3;rw[m2 ρ1,LE.cg h2 hj1,<-hj3,h2 dv d1,<-d2,<-hle]at k3;refine fO.mk h2 (by show s.nx<=s1.nx;omega) ((h4.aF ?_).aF ?_) ⟨_,_,h1,h5,by simp only[SC.lt];exact jh (by show s.nx<s1.nx;omega),gC h6,ik (by show s.nx<s1.nx;omega)⟩
    ·rw[LE.au,hlen];omega
    ·rw[LE.au,hlen];omega
 |ptr cc=>cases hv;exact H6 h hΦ hk hg (hf _ (zbr _))
 |FJ cc =>
  obtain⟨h1,h2⟩:=R.eW h;rcases hv with ⟨rfl,rfl⟩|rfl
  ·exact fO.here hk ⟨_,_,h1,rfl,rfl,rfl,rfl⟩
  ·exact H6 h2 hΦ hk hg (hf _ (zbr _))
 |mp cc=>cases hv;exact H7 h hΦ hk hg (hf _ (zbr _))
 |FL cc =>
  obtain⟨h1,h2⟩:=R.eW h;rcases hv with ⟨rfl,rfl⟩|rfl
  ·exact fO.here hk ⟨_,_,h1,rfl,rfl,rfl,rfl⟩
  ·exact H7 h2 hΦ hk hg (hf _ (zbr _))
 |bad=>exact hv.elim
def P9 (cf:Cf)(g:Nat)(d:Option Nat)(j:LE):List K2->(List SC->List Nat->SS->R)->SS->R
 | [],K,s=>K [] [] s
 |k::ks,K,s=>pI cf g d j k s fun x o s=>P9 cf g d j ks (fun xs os s=>K (x::xs) (o.toList++os) s) s
def ji:List Nat->LE
 | []=>.k 0
 |x::xs=>(ji xs).add (.a (.wt x))
theorem x7:∀xs,((ji xs).ev ρ:Int)=((xs.map fun x=>(ρ x).ns.sum+(ρ x).ns.length).sum:Nat)
 | []=>by rw[ji,LE.bk];rfl
 |x::xs=>by
  rw[ji,LE.ij,LE.aV,x7 xs,zal,zda];show _+(((ρ x).ns.sum+(ρ x).ns.length:Nat):Int)=_;omega
theorem Qa {g dv:Nat}(h:dh s.nx ρ ρ')(hg:bG s.nx g=true)(hd:dv<s.nx/\Γ.gd (ig ρ g)=(ρ dv).gg){n:Nat}(hn:s.nx<=n):dv<n/\Γ.gd (ig ρ' g)=(ρ' dv).gg:=by
 rw[bR h hg,h dv hd.1];exact⟨by omega,hd.2⟩
theorem FQ {n n' g:Nat}(h:bG n g=true)(hn:n<=n'):bG n' g=true:=zbs (zay (aN h) hn)
theorem LE.KP {n n':Nat}{e:LE}(h:e.lt n=true)(hn:n<=n'):e.lt n'=true:=by
 unfold LE.lt at h ⊢;rw[zb]at h ⊢;exact fun p hp=>jh (by have:=ax (h p hp);omega)
theorem KQ {n:Nat}{o:Option Nat}(h:AM n o=true):∀x∈o.toList,x<n:=by
 cases o with
 |none=>intro x hx;cases hx
 |some y=>intro x hx;rw[List.mem_singleton.1 hx];exact ax h
theorem DN {g J:Nat}{d:Option Nat}{j:LE}(hΦ:cf.Φ=c.Φ):∀{ks:List K2}{s:SS}{ρ:bm}{K:List SC->List Nat->SS->R}{cs:List AV}{fs:List TF},(P9 cf g d j ks K s).Ok->Ok c T G Γ ρ s->bG s.nx g=true ->
  (∀dv,d=some dv->dv<s.nx/\Γ.gd (ig ρ g)=(ρ dv).gg)->(j.lt s.nx=true/\0<=j.ev ρ/\J=(j.ev ρ).toNat)->iz c.Φ (Γ.gd (ig ρ g)) (ig ρ g) J ks cs fs->(∀f∈fs,fF c.P c.Φ G Γ f) ->
  fO c T G Γ s ρ fun ρ' s'=>∃xs os,(K xs os s').Ok/\aD ρ' xs=cs/\(∀y∈os,y<s'.nx)/\((os.map fun x=>(ρ' x).ns.sum+(ρ' x).ns.length).sum=jj c.Φ fs)
 | [],s,ρ,K,cs,fs,h,hk,hg,hd,hj,⟨h1,h2⟩,hf=>by
   subst h1 h2;exact fO.here hk ⟨[],[],h,rfl,(fun y hy=>by cases hy),rfl⟩
 |k::ks,s,ρ,K,_,_,h,hk,hg,hd,hj,⟨v,cs',f,fs',h1,h2,h3,h4⟩,hf=>by
  subst h1 h2;refine (pB h hΦ hk hg hd hj h3 fun x hx=>hf x (zbz _ hx)).bind fun ρ1 s1 a1 n1 o1 ⟨x,o,g1,g2,g3,g4,g5⟩=>?_;refine (DN hΦ (J:=J) g1 o1 (FQ hg n1) (fun dv he=>Qa a1 hg (hd dv he) n1) ⟨LE.KP hj.1 n1,by rw[LE.cg a1 hj.1];exact hj.2⟩ (by rw[bR a1 hg];exact h4) fun x hx=>hf x (zbx _ hx)).mono fun ρ2 s2 a2 n2 o2 hh=>?_;obtain⟨xs,os,k1,k2,k3,k4⟩:=hh;refine⟨_,_,k1,?_,fun y hy=>?_,?_⟩
  ·show x.den ρ2::aD ρ2 xs=_;rw[SC.cg a2 g3,g2,k2]
  ·rcases List.mem_append.1 hy with hy|hy
   ·have:=KQ g5 y hy;omega
   ·exact k3 y hy
  ·rw[zar,zdy,k4,iI,<-g4];congr 1;cases o with
   |none=>rfl
   |some y =>
    have:=ax g5;simp only[Option.toList,zal,zdo,zda,List.sum_nil,H5,zbt];rw[a2 y this]
end
end Go.Rd
namespace Go.Rd
open Go.aK Go.RowKit Go.Rt
def sc (x:SC):SV:=.v false [x]
def oJ:List dW->Nat->Option (Nat×Nat)
 | [],_=>none
 |.sl y c g::l,x=>bif Nat.beq y x then some (c,g)else oJ l x
 |_::l,x=>oJ l x
def pC:List dW->Nat->Option (Nat×Nat)
 | [],_=>none
 |.pt y c g::l,x=>bif Nat.beq y x then some (c,g)else pC l x
 |_::l,x=>pC l x
def wE:List dW->Nat->Option (Nat×Nat)
 | [],_=>none
 |.mp y c g::l,x=>bif Nat.beq y x then some (c,g)else wE l x
 |_::l,x=>wE l x
theorem gI:∀{l:List dW}{x c g:Nat},oJ l x=some (c,g)->dW.sl x c g∈l
 | [],_,_,_,h=>by cases h
 |.sl y c' g'::l,x,c,g,h=>by
  have h:(bif Nat.beq y x then some (c',g')else oJ l x)=some (c,g):=h;cases hb:Nat.beq y x with
  |true=>rw[hb]at h;cases h;have:=zab hb;subst this;exact zac ..
  |false=>rw[hb]at h;exact zaa _ (gI h)
 |.pt y c' g'::l,x,c,g,h=>zaa _ (gI (l:=l) h)
 |.mp y c' g'::l,x,c,g,h=>zaa _ (gI (l:=l) h)
 |.el _ _ _ _ _::l,x,c,g,h=>zaa _ (gI (l:=l) h)
theorem jt:∀{l:List dW}{x c g:Nat},pC l x=some (c,g)->dW.pt x c g∈l
 | [],_,_,_,h=>by cases h
 |.pt y c' g'::l,x,c,g,h=>by
  have h:(bif Nat.beq y x then some (c',g')else pC l x)=some (c,g):=h;cases hb:Nat.beq y x with
  |true=>rw[hb]at h;cases h;have:=zab hb;subst this;exact zac ..
  |false=>rw[hb]at h;exact zaa _ (jt h)
 |.sl y c' g'::l,x,c,g,h=>zaa _ (jt (l:=l) h)
 |.mp y c' g'::l,x,c,g,h=>zaa _ (jt (l:=l) h)
 |.el _ _ _ _ _::l,x,c,g,h=>zaa _ (jt (l:=l) h)
theorem iP:∀{l:List dW}{x c g:Nat},wE l x=some (c,g)->dW.mp x c g∈l
 | [],_,_,_,h=>by cases h
 |.mp y c' g'::l,x,c,g,h=>by
  have h:(bif Nat.beq y x then some (c',g')else wE l x)=some (c,g):=h;cases hb:Nat.beq y x with
  |true=>rw[hb]at h;cases h;have:=zab hb;subst this;exact zac ..
  |false=>rw[hb]at h;exact zaa _ (iP h)
 |.sl y c' g'::l,x,c,g,h=>zaa _ (iP (l:=l) h)
 |.pt y c' g'::l,x,c,g,h=>zaa _ (iP (l:=l) h)
 |.el _ _ _ _ _::l,x,c,g,h=>zaa _ (iP (l:=l) h)
def jN:List SO->Nat->Option (TypeId×List SC)
 | [],_=>none
 |.loc b el cs::l,x=>bif Nat.beq b x then some (el,cs)else jN l x
 |_::l,x=>jN l x
theorem dN:∀{l:List SO}{x:Nat}{el:TypeId}{cs:List SC},jN l x=some (el,cs)->SO.loc x el cs∈l
 | [],_,_,_,h=>by cases h
 |.loc b el' cs'::l,x,el,cs,h=>by
  have h:(bif Nat.beq b x then some (el',cs')else jN l x)=some (el,cs):=h;cases hb:Nat.beq b x with
  |true=>rw[hb]at h;cases h;have:=zab hb;subst this;exact zac ..
  |false=>rw[hb]at h;exact zaa _ (dN h)
 |.jg y c'::l,x,el,cs,h=>zaa _ (dN (l:=l) h)
 |.em y c'::l,x,el,cs,h=>zaa _ (dN (l:=l) h)
 |.ul y c' _::l,x,el,cs,h=>zaa _ (dN (l:=l) h)
 |.am y c' _::l,x,el,cs,h=>zaa _ (dN (l:=l) h)
 |.im y c'::l,x,el,cs,h=>zaa _ (dN (l:=l) h)
 |.bl y c' g'::l,x,el,cs,h=>zaa _ (dN (l:=l) h)
 |.km _ _ _ _::l,x,el,cs,h=>zaa _ (dN (l:=l) h)
 |.rm _ _ _ _::l,x,el,cs,h=>zaa _ (dN (l:=l) h)
 |.kq _ _ _ _ _::l,x,el,cs,h=>zaa _ (dN (l:=l) h)
 |.it _ _ _ _ _ _::l,x,el,cs,h=>zaa _ (dN (l:=l) h)
section
variable {c:Cx}{T:Tm}{G:GH}{Γ:dI}{ρ ρ':bm}{s s':SS}{cf:Cf}{ops:Array Oper}{i:Nat}
theorem Ok.ty {f:dW}(h:Ok c T G Γ ρ s)(hf:f∈s.ty):fF c.P c.Φ G Γ (f.den ρ):=h.q.ty _ (List.mem_map.2 ⟨f,hf,rfl⟩)
theorem Ok.own {o:SO}(h:Ok c T G Γ ρ s)(ho:o∈s.os):df c.P c.Φ G Γ (o.den ρ):=h.q.own _ (List.mem_map.2 ⟨o,ho,rfl⟩)
theorem Ok.loc {b:Nat}{el:TypeId}{cs:List SC}(h:Ok c T G Γ ρ s)(hl:jN s.os b=some (el,cs)):G (ρ b).nn=some (.cells .loc el cs.length (aD ρ cs)):=by
 have:=(h.own (dN hl)).1;rwa[show (aD ρ cs).length=cs.length by simp[aD]]at this
def Lo (c:Cx)(T:Tm)(G:GH)(Γ:dI)(ops:Array Oper)(i:Nat)(s:SS)(ρ:bm)(K:SV->SS->R):Prop :=
 fO c T G Γ s ρ fun ρ' s'=>∃v,(K v s').Ok/\ba c.P ops c.n0 c.nt i T .e (z 0) G (v.den ρ')
theorem Lo.here {K:SV->SS->R}{v:SV}(hk:Ok c T G Γ ρ s)(h:(K v s).Ok)(hl:ba c.P ops c.n0 c.nt i T .e (z 0) G (v.den ρ)):Lo c T G Γ ops i s ρ K:=fO.here hk ⟨v,h,hl⟩
theorem Lo.fr {K:SV->SS->R}{u:U}{v:SV}(hk:Ok c T G Γ (ρ.up s.nx u) (aC s))(h:(K v (aC s)).Ok)(hl:ba c.P ops c.n0 c.nt i T .e (z 0) G (v.den (ρ.up s.nx u))):Lo c T G Γ ops i s ρ K:=fO.mk (HN _ _ _) (zan _) hk ⟨v,h,hl⟩
theorem Lo.to {K:SV->SS->R}(hn:s'.nx=s.nx)(h:Lo c T G Γ ops i s' ρ K):Lo c T G Γ ops i s ρ K:=by
 obtain⟨ρ',s2,a,n,o,h⟩:=h;exact⟨ρ',s2,by rw[<-hn];exact a,by omega,o,h⟩
def fK (k:IntKind):Bool:=di k .i64
theorem eu {k:IntKind}(h:fK k=true):k=.i64:=of_decide_eq_true h
def x8 (s:SS)(e:LE):Bool:=aX s (e.aO 9223372036854775808)&&aX s ((LE.k 9223372036854775807).sub e)
theorem x9 {e:LE}(h:x8 s e=true)(hs:Sat ρ s):IntKind.i64.wrap (e.ev ρ)=e.ev ρ:=by
 unfold x8 at h;rw[za]at h;have h1:=av h.1 hs;have h2:=av h.2 hs;rw[LE.aE]at h1;rw[LE.au,LE.bk]at h2;rw[IntKind.wrap_i64];omega
def KS (s:SS)(k:IntKind)(e:Option LE)(K:SV->SS->R):R:=match e with
 |some e=>bif fK k&&x8 s e then K (sc (.int k e)) s else fresh s fun x s=>K (sc (.int k (.a (.z x)))) s
 |none=>fresh s fun x s=>K (sc (.int k (.a (.z x)))) s
theorem Tx (ρ:bm)(k:IntKind)(x:Nat)(z:Int)(h:ρ x=.z z):(sc (.int k (.a (.z x)))).den ρ=.int k z:=by
 show AV.int k ((LE.a (.z x)).ev ρ)=_;rw[LE.aV];show AV.int k (ρ x).zz=_;rw[h];rfl
theorem nG {k:IntKind}{K:SV->SS->R}{r:Int}(h:(fresh s (fun x s=>K (sc (.int k (.a (.z x)))) s)).Ok)(hk:Ok c T G Γ ρ s)(hl:ba c.P ops c.n0 c.nt i T .e (z 0) G (.int k r)):Lo c T G Γ ops i s ρ K:=by
 obtain⟨h1,h2,h3,h4⟩:=az h hk (.z r);exact Lo.fr h3 h1 (by rw[Tx _ _ _ r h4];exact hl)
theorem H8 {k:IntKind}{e:Option LE}{K:SV->SS->R}{r:Int}(h:(KS s k e K).Ok)(hk:Ok c T G Γ ρ s)(he:∀e',e=some e'->r=k.wrap (e'.ev ρ))(hl:ba c.P ops c.n0 c.nt i T .e (z 0) G (.int k r)):Lo c T G Γ ops i s ρ K:=by
 cases e with
 |none=>exact nG h hk hl
 |some e =>
  have h:((bif fK k&&x8 s e then K (sc (.int k e)) s else fresh s fun x s=>K (sc (.int k (.a (.z x)))) s)).Ok:=h;cases hb:(fK k&&x8 s e)with
  |false=>rw[hb]at h;exact nG h hk hl
  |true =>
   rw[hb]at h;rw[za]at hb;have:=eu hb.1;subst this;have hr:=he e rfl;rw[x9 hb.2 hk.sat]at hr;subst hr;exact Lo.here hk h hl
def cX (e:LE):Option Int:=bif e.ts.isEmpty then some e.c else none
theorem dO {e:LE}{k:Int}(h:cX e=some k)(ρ:bm):e.ev ρ=k:=by
 unfold cX at h;cases hb:e.ts.isEmpty with
 |false=>rw[hb]at h;cases h
 |true=>rw[hb]at h;cases h;have:=List.isEmpty_iff.1 hb;unfold LE.ev;rw[this];simp[ot]
def WL (op:BinOp)(a b:LE):Option LE:=match op with
 |.add=>some (a.add b)
 |.sub=>some (a.sub b)
 |.mul=>match cX a with|some k=>some (b.js k)|none=>(match cX b with|some k=>some (a.js k)|none=>none)
 |_=>none
theorem H9 {op:BinOp}{a b e:LE}(h:WL op a b=some e)(ρ:bm):e.ev ρ=WD op (a.ev ρ) (b.ev ρ):=by
 cases op<;>first|(cases h;done)|skip
 ·cases h;exact LE.ij ρ a b
 ·cases h;exact LE.au ρ a b
 ·have h:(match cX a with|some k=>some (b.js k)|none=>(match cX b with|some k=>some (a.js k)|none=>none))=some e:=h;cases ha:cX a with
  |some k=>rw[ha]at h;cases h;rw[LE.fJ,dO ha ρ];rfl
  |none =>
   rw[ha]at h;cases hb:cX b with
   |some k=>rw[hb]at h;cases h;rw[LE.fJ,dO hb ρ];exact Int.mul_comm _ _
   |none=>rw[hb]at h;cases h
def KT (op:BinOp)(a b:LE):BE:=match op with
 |.lss=>.ge ((b.sub a).aO (-1))
 |.leq=>.ge (b.sub a)
 |.gtr=>.ge ((a.sub b).aO (-1))
 |.geq=>.ge (a.sub b)
 |.eql=>.eq (a.sub b)
 |_=>.ne (a.sub b)
theorem KU {op:BinOp}(hr:mn op=true)(a b:LE)(ρ:bm):(KT op a b).ev ρ=KM op (a.ev ρ) (b.ev ρ):=by
 cases op<;>first|(cases hr;done)|skip
 all_goals simp only[KT,BE.ev,KM,LE.aE,LE.au]
 all_goals first
  |(rw[zcy,decide_eq_true_eq,decide_eq_true_eq];omega)
  |(rw[zcy];simp only[zam,decide_eq_true_eq,decide_eq_false_iff_not];omega)
def Ty (s:SS)(b:BE):BE:=match b with
 |.ge e=>(match cX e with|some k=>.k (!nD k)|none=>b)
 |.eq e=>(match cX e with|some k=>.k (mc k)|none=>b)
 |.ne e=>(match cX e with|some k=>.k (!mc k)|none=>b)
 |b=>b
theorem Ia (b:BE)(ρ:bm):(Ty s b).ev ρ=b.ev ρ:=by
 cases b with
 |ge e =>
  show ((match cX e with|some k=>BE.k (!nD k)|none=>.ge e)).ev ρ=_;cases h:cX e with
  |none=>rfl
  |some k =>
   simp only[BE.ev,dO h ρ];cases hn:nD k with
   |true=>have:=P0 hn;symm;exact decide_eq_false (by omega)
   |false=>have:=ri hn;symm;exact decide_eq_true (by omega)
 |eq e =>
  show ((match cX e with|some k=>BE.k (mc k)|none=>.eq e)).ev ρ=_;cases h:cX e with
  |none=>rfl
  |some k =>
   simp only[BE.ev,dO h ρ];cases hn:mc k with
   |true=>have:=rj hn;symm;exact decide_eq_true this
   |false=>have:=xV hn;symm;exact decide_eq_false this
 |ne e =>
  show ((match cX e with|some k=>BE.k (!mc k)|none=>.ne e)).ev ρ=_;cases h:cX e with
  |none=>rfl
  |some k =>
   simp only[BE.ev,dO h ρ];cases hn:mc k with
   |true=>have:=rj hn;rw[decide_eq_true this]
   |false=>have:=xV hn;rw[decide_eq_false this]
 |_=>rfl
def jO:SC->Option (Option (Nat×Nat))
 |.str _=>some none
 |.my l m=>bif Nat.ble l kC then some (some (l,m))else none
 |_=>none
theorem fE {x:SC}{q:Option (Nat×Nat)}(h:jO x=some q)(ρ:bm):∃l m,x.den ρ=.str l m/\∀p,q=some p->p=(l,m):=by
 cases x<;>first|(cases h;done)|skip
 ·cases h;exact⟨_,_,rfl,fun p hp=>(by cases hp)⟩
 ·rename_i l m;have h:(bif Nat.ble l kC then some (some (l,m))else none)=some q:=h;cases hb:Nat.ble l kC with
  |false=>rw[hb]at h;cases h
  |true=>rw[hb]at h;cases h;exact⟨_,_,rfl,fun p hp=>(Option.some.inj hp).symm⟩
theorem ly {x:SC}(h:(jO x).isSome=true){ρ:bm}{l m:Nat}(e:x.den ρ=.str l m):l<=kC:=by
 cases x<;>first|(cases h;done)|skip
 ·cases e;exact U.Cm _
 ·cases e;have h:(bif Nat.ble l kC then some (some (l,m))else none).isSome=true:=h;cases hb:Nat.ble l kC with
  |false=>rw[hb]at h;cases h
  |true=>exact aN hb
def Qb (s:SS)(x:SC)(K:BE->SS->R):R:=match x with
 |.ab=>K (.k true) s|.c7=>K (.k true) s|.bg=>K (.k true) s
 |.bZ _ _=>K (.k false) s
 |.ref y=>(match pC s.ty y with
  |some _=>K (.k false) s
  |none=>match wE s.ty y with
   |some _=>K (.k false) s
   |none=>match oJ s.ty y with
    |some _=>fresh s fun b s=>K (.v b) s
    |none=>.bad 20 s)
 |_=>.bad 21 s
def ya:TypeDesc->SC->Bool
 |.slice _,.ab=>true
 |.pointer _,.c7=>true
 |.map _ _,.bg=>true
 |_,_=>false
def uJ (s:SS):TypeDesc->SC->Bool
 |.slice _,.ab=>true
 |.slice _,.ref y=>(oJ s.ty y).isSome
 |.pointer _,.c7=>true
 |.pointer _,.bZ _ _=>true
 |.pointer _,.ref y=>(pC s.ty y).isSome
 |.map _ _,.bg=>true
 |.map _ _,.ref y=>(wE s.ty y).isSome
 |_,_=>false
theorem Tz {y cc g:Nat}(hk:Ok c T G Γ ρ s)(h:oJ s.ty y=some (cc,g)):ZH (ρ y).vv:=by
 rcases (hk.ty (gI h)).form with ⟨h,_⟩|⟨b,o,cp,h⟩
 ·exact .inl h
 ·exact .inr ⟨b,o,_,cp,h⟩
theorem uK {y cc g:Nat}(hk:Ok c T G Γ ρ s)(h:pC s.ty y=some (cc,g)):∃b,(ρ y).vv=.bZ b 0:=by
 obtain⟨b,L,h1,_⟩:=hk.ty (jt h);exact⟨b,h1⟩
theorem Nf {y cc g:Nat}(hk:Ok c T G Γ ρ s)(h:wE s.ty y=some (cc,g)):∃b,(ρ y).vv=.cV b:=by
 obtain⟨b,h1,_⟩:=hk.ty (iP h);exact⟨b,h1⟩
theorem AN {dd:TypeDesc}{x y:SC}(hk:Ok c T G Γ ρ s)(h:(uJ s dd x&&ya dd y)=true):DJ dd (x.den ρ) (y.den ρ):=by
 rw[za]at h;obtain⟨h1,h2⟩:=h;cases dd<;>first|(cases h2;done)|skip
 ·cases y<;>first|(cases h2;done)|skip
  refine⟨?_,rfl⟩;cases x<;>first|(cases h1;done)|skip
  ·rename_i q;obtain⟨p,hp⟩:=Option.isSome_iff_exists.1 (show (pC s.ty q).isSome=true from h1);obtain⟨b,hb⟩:=uK (cc:=p.1) (g:=p.2) hk hp;exact .inr ⟨b,0,hb⟩
  ·exact .inl rfl
  ·exact .inr ⟨_,_,rfl⟩
 ·cases y<;>first|(cases h2;done)|skip
  refine⟨?_,rfl⟩;cases x<;>first|(cases h1;done)|skip
  ·rename_i q;obtain⟨p,hp⟩:=Option.isSome_iff_exists.1 (show (oJ s.ty q).isSome=true from h1);exact Tz (cc:=p.1) (g:=p.2) hk hp
  ·exact .inl rfl
 ·cases y<;>first|(cases h2;done)|skip
  refine⟨?_,rfl⟩;cases x<;>first|(cases h1;done)|skip
  ·rename_i q;obtain⟨p,hp⟩:=Option.isSome_iff_exists.1 (show (wE s.ty q).isSome=true from h1);obtain⟨b,hb⟩:=Nf (cc:=p.1) (g:=p.2) hk hp;exact .inr ⟨b,hb⟩
  ·exact .inl rfl
theorem DO {x:SC}{K:BE->SS->R}(h:(Qb s x K).Ok)(hk:Ok c T G Γ ρ s):fO c T G Γ s ρ fun ρ' s'=>∃b,(K b s').Ok/\b.ev ρ'=nE (x.den ρ):=by
 cases x<;>first|(cases h;done)|skip
 case ref y =>
  have h:((match pC s.ty y with
   |some _=>K (.k false) s
   |none=>match wE s.ty y with
    |some _=>K (.k false) s
    |none=>match oJ s.ty y with
     |some _=>fresh s fun b s=>K (.v b) s
     |none=>.bad 20 s)).Ok:=h
  cases hp:pC s.ty y with
  |some p =>
   rw[hp]at h;obtain⟨b,hb⟩:=uK (cc:=p.1) (g:=p.2) hk hp;exact fO.here hk ⟨_,h,by simp only[BE.ev,SC.den,hb];rfl⟩
  |none =>
   rw[hp]at h;cases hm:wE s.ty y with
   |some p =>
    rw[hm]at h;obtain⟨b,hb⟩:=Nf (cc:=p.1) (g:=p.2) hk hm;exact fO.here hk ⟨_,h,by simp only[BE.ev,SC.den,hb];rfl⟩
   |none =>
    rw[hm]at h;cases hs:oJ s.ty y with
    |none=>rw[hs]at h;cases h
    |some p =>
     rw[hs]at h;obtain⟨h1,h2,h3,h4⟩:=az h hk (.b (nE (SC.den ρ (.ref y))));exact fO.mk h2 (zan _) h3 ⟨_,h1,by simp only[BE.ev];rw[h4];rfl⟩
 all_goals exact fO.here hk ⟨_,h,rfl⟩
def WM (a b:SC)(op:BinOp):Option BE:=match a,b,op with
 |.str y,.my 0 _,.eql=>some (.eq (.a (.sl y)))
 |.str y,.my 0 _,.neq=>some (.ne (.a (.sl y)))
 |_,_,_=>none
theorem wF (l m m':Nat):aR l m 0 m'=decide ((l:Int)=0):=by
 cases l with
 |zero =>
  have h:∀x,jm 0 x=0:=fun x=>by show x%1=0;exact Nat.mod_one x
  unfold aR;rw[h,h];rfl
 |succ l =>
  have:Nat.beq (l+1) 0=false:=rfl;unfold aR;rw[this];simp;omega
def WN (cf:Cf)(op:BinOp)(t:TypeId)(x y:SV)(s:SS)(K:SV->SS->R):R:=match x,y with
 |.v false [.int k a],.v false [.int k' b] =>
  bif di k k'&&mn op then K (sc (.bool (Ty s (KT op a b)))) s
  else bif di k k'&&nZ op then KS s k (WL op a b) K
  else (match op with
   |.quo=>bif di k k' then (match cX b with
    |some q=>bif mc q then .bad 23 s else bif fK k&&(!nD q&&(aX s a&&(x8 s a&&a.lt s.nx)))then fresh s fun x s=>K (sc (.int k (.a (.n x)))) (aF (aF s (a.sub ((LE.a (.n x)).js q))) ((((LE.a (.n x)).js q).aO (q-1)).sub a))else KS s k none K
    |none=>.bad 24 s)else .bad 22 s
   |.and=>bif di k k' then KS s k none K else .bad 22 s
   |.or=>bif di k k' then KS s k none K else .bad 22 s
   |.xor=>bif di k k' then KS s k none K else .bad 22 s
   |.shl=>bif aX s b then KS s k none K else .bad 25 s
   |.shr=>bif aX s b then KS s k none K else .bad 25 s
   |_=>.bad 22 s)
 |.v false [a],.v false [b]=>(match jO a,jO b with
  |some p,some q=>bif mn op then (match p,q,op with
   |some p,some q,.eql=>K (sc (.bool (.k (aR p.1 p.2 q.1 q.2)))) s
   |some p,some q,.neq=>K (sc (.bool (.k (!aR p.1 p.2 q.1 q.2)))) s
   |_,_,_=>(match WM a b op with
    |some be=>K (sc (.bool (Ty s be))) s
    |none=>fresh s fun x s=>K (sc (.bool (.v x))) s))else .bad 26 s
  |_,_=>match cf.P.underlying t with
   |some dd=>bif uJ s dd a&&ya dd b then (match op with
    |.eql=>Qb s a fun r s=>K (sc (.bool r)) s
    |.neq=>Qb s a fun r s=>K (sc (.bool r.not)) s
    |_=>.bad 27 s)else .bad 28 s
   |none=>.bad 29 s)
 |_,_=>.bad 30 s
theorem Qc {op:BinOp}{t yt:TypeId}{ox oy:Operand}{x y:SV}{K:SV->SS->R}(ho:(ae ops i).op=.binOp op t ox oy yt)(hg:(ae ops i).guard=none)(hP:cf.P=c.P)(h:(WN cf op t x y s K).Ok)(hk:Ok c T G Γ ρ s)(hx:a9 c.nt T ox (x.den ρ))(hy:a9 c.nt T oy (y.den ρ)):Lo c T G Γ ops i s ρ K:=by
 unfold WN at h;split at h
 ·rename_i k a k' b;have hx:a9 c.nt T ox (.int k (a.ev ρ)):=hx;have hy:a9 c.nt T oy (.int k' (b.ev ρ)):=hy;cases hr:(di k k'&&mn op)with
  |true =>
   rw[hr]at h;rw[za]at hr;have hkk:k=k':=of_decide_eq_true hr.1;subst hkk;refine Lo.here hk h ?_;show ba _ _ _ _ _ _ _ _ _ (.bool ((Ty s (KT op a b)).ev ρ));rw[Ia,KU hr.2];exact ba.WH hg ho hr.2 hx hy
  |false =>
   rw[hr]at h;cases ha:(di k k'&&nZ op)with
   |true =>
    rw[ha]at h;rw[za]at ha;have hkk:k=k':=of_decide_eq_true ha.1;subst hkk;exact H8 h hk (fun e' he=>by rw[H9 he ρ]) (ba.ZI hg ho ha.2 hx hy)
   |false =>
    rw[ha]at h;simp only[cond_false]at h;split at h
    ·cases hkk:di k k' with
     |false=>rw[hkk]at h;cases h
     |true =>
      rw[hkk]at h;have hkk:k=k':=of_decide_eq_true hkk;subst hkk;simp only[cond_true]at h;cases hc:cX b with
      |none=>rw[hc]at h;cases h
      |some q =>
       rw[hc]at h;simp only at h;cases hz:mc q with
       |true=>rw[hz]at h;cases h
       |false =>
        rw[hz]at h;simp only[cond_false]at h;have hq:=xV hz;rw[dO hc ρ]at hy;obtain⟨r,hr1,_,hl⟩:=ba.Tw hg ho (.inl rfl) hq hx hy (P:=c.P) (n0:=c.n0) (hp:=.e) (nx:=z 0) (G:=G);have hr1:=hr1 rfl;cases hb:(fK k&&(!nD q&&(aX s a&&(x8 s a&&a.lt s.nx))))with
        |false=>rw[hb]at h;exact nG h hk hl
        |true =>
         rw[hb]at h;simp only[cond_true]at h;simp only[za,zam]at hb;obtain⟨hb1,hb2,hb3,hb4,hb5⟩:=hb;have:=eu hb1;subst this;have hqp:=ri hb2;have pD:=av hb3 hk.sat;have hpos:0<q:=by omega
         have hd1:(a.ev ρ).tdiv q=a.ev ρ/q:=Int.tdiv_eq_ediv_of_nonneg pD;have hd0:0<=a.ev ρ/q:=Int.ediv_nonneg pD hqp;have hd2:a.ev ρ/q<=a.ev ρ:=Int.ediv_le_self _ pD;have hfa:=x9 hb4 hk.sat
         have hfit:IntKind.i64.wrap (a.ev ρ/q)=a.ev ρ/q:=by
          rw[IntKind.wrap_i64]at hfa ⊢;omega
         rw[hr1,hd1,hfit]at hl;obtain⟨h1,h2,h3,h4⟩:=az h hk (.n (a.ev ρ/q).toNat)
         have hx1:(LE.a (.n s.nx)).ev (ρ.up s.nx (.n (a.ev ρ/q).toNat))=a.ev ρ/q:=by
          rw[LE.aV];show ((ρ.up s.nx (.n (a.ev ρ/q).toNat) s.nx).nn:Int)=_;rw[h4];show (((a.ev ρ/q).toNat:Nat):Int)=_;omega
         have hae:=LE.cg h2 hb5;have e1:=zel (a.ev ρ) q;have e2:=Int.emod_nonneg (a.ev ρ) hq;have e3:=Int.emod_lt_of_pos (a.ev ρ) hpos;refine fO.mk h2 (zan _) ((h3.aF ?_).aF ?_) ⟨_,h1,?_⟩
         ·rw[LE.au,LE.fJ,hx1,hae];omega
         ·rw[LE.au,LE.aE,LE.fJ,hx1,hae];omega
         ·show ba _ _ _ _ _ _ _ _ _ (.int .i64 ((LE.a (.n s.nx)).ev _));rw[hx1];exact hl
    ·cases hkk:di k k' with
     |false=>rw[hkk]at h;cases h
     |true =>
      rw[hkk]at h;have hkk:k=k':=of_decide_eq_true hkk;subst hkk;obtain⟨r,hl⟩:=ba.P5 hg ho (.inl rfl) hx hy (P:=c.P) (n0:=c.n0) (hp:=.e) (nx:=z 0) (G:=G);exact nG h hk hl
    ·cases hkk:di k k' with
     |false=>rw[hkk]at h;cases h
     |true =>
      rw[hkk]at h;have hkk:k=k':=of_decide_eq_true hkk;subst hkk;obtain⟨r,hl⟩:=ba.P5 hg ho (.inr (.inl rfl)) hx hy (P:=c.P) (n0:=c.n0) (hp:=.e) (nx:=z 0) (G:=G);exact nG h hk hl
    ·cases hkk:di k k' with
     |false=>rw[hkk]at h;cases h
     |true =>
      rw[hkk]at h;have hkk:k=k':=of_decide_eq_true hkk;subst hkk;obtain⟨r,hl⟩:=ba.P5 hg ho (.inr (.inr rfl)) hx hy (P:=c.P) (n0:=c.n0) (hp:=.e) (nx:=z 0) (G:=G);exact nG h hk hl
    ·cases hb:aX s b with
     |false=>rw[hb]at h;cases h
     |true =>
      rw[hb]at h;obtain⟨r,hl⟩:=ba.ZJ hg ho (.inl rfl) (av hb hk.sat) hx hy (P:=c.P) (n0:=c.n0) (hp:=.e) (nx:=z 0) (G:=G);exact nG h hk hl
    ·cases hb:aX s b with
     |false=>rw[hb]at h;cases h
     |true =>
      rw[hb]at h;obtain⟨r,hl⟩:=ba.ZJ hg ho (.inr rfl) (av hb hk.sat) hx hy (P:=c.P) (n0:=c.n0) (hp:=.e) (nx:=z 0) (G:=G);exact nG h hk hl
    ·cases h
 ·rename_i a b hne;have hx:a9 c.nt T ox (a.den ρ):=hx;have hy:a9 c.nt T oy (b.den ρ):=hy;split at h
  ·rename_i p q hp hq;obtain⟨l,m,e1,p1⟩:=fE hp ρ;obtain⟨l',m',e2,p2⟩:=fE hq ρ;rw[e1]at hx;rw[e2]at hy;cases hr:mn op with
   |false=>rw[hr]at h;cases h
   |true =>
    rw[hr]at h;simp only[cond_true]at h;obtain⟨b',q1,q2,hl⟩:=ba.WI hg ho hr hx hy (P:=c.P) (n0:=c.n0) (hp:=.e) (nx:=z 0) (G:=G)
    have fin:((fresh s fun x s=>K (sc (.bool (.v x))) s)).Ok->Lo c T G Γ ops i s ρ K:=fun h=>by
     obtain⟨h1,h2,h3,h4⟩:=az h hk (.b b');refine Lo.fr h3 h1 ?_;show ba _ _ _ _ _ _ _ _ _ (.bool ((BE.v s.nx).ev _));simp only[BE.ev];rw[h4];exact hl
    split at h
    ·rename_i p q;have:=p1 p rfl;subst this;have:=p2 q rfl;subst this;refine Lo.here hk h ?_;have:=q1 rfl;subst this;exact hl
    ·rename_i p q;have:=p1 p rfl;subst this;have:=p2 q rfl;subst this;refine Lo.here hk h ?_;have:=q2 rfl;subst this;exact hl
    ·cases he:WM a b op with
     |none=>rw[he]at h;exact fin h
     |some be =>
      rw[he]at h;refine Lo.here hk h ?_;show ba _ _ _ _ _ _ _ _ _ (.bool ((Ty s be).ev ρ));rw[Ia];have e1:a.den ρ=.str l m:=e1;have e2:b.den ρ=.str l' m':=e2;unfold WM at he;split at he
      ·cases he;simp only[SC.den,AV.str.injEq]at e1 e2;have:=q1 rfl;rw[<-e2.1,<-e1.1,wF]at this;subst this;simp only[BE.ev,LE.aV];exact hl
      ·cases he;simp only[SC.den,AV.str.injEq]at e1 e2;have:=q2 rfl;rw[<-e2.1,<-e1.1,wF]at this;subst this;simp only[BE.ev,LE.aV];exact hl
      ·cases he
  ·split at h
   ·rename_i dd hu;rw[hP]at hu;cases hf:(uJ s dd a&&ya dd b)with
    |false=>rw[hf]at h;cases h
    |true =>
     rw[hf]at h;simp only[cond_true]at h;have hn:=AN hk hf;split at h
     ·refine (DO h hk).mono fun ρ' s' a1 n1 o1 hh=>?_;obtain⟨r,g1,g2⟩:=hh;refine⟨_,g1,?_⟩;show ba _ _ _ _ _ _ _ _ _ (.bool (r.ev ρ'));rw[g2];have:=ba.M6 (neq:=false) hg ho hu hx hy hn (P:=c.P) (n0:=c.n0) (hp:=.e) (nx:=z 0) (G:=G);simpa using this
     ·refine (DO h hk).mono fun ρ' s' a1 n1 o1 hh=>?_;obtain⟨r,g1,g2⟩:=hh;refine⟨_,g1,?_⟩;show ba _ _ _ _ _ _ _ _ _ (.bool (r.not.ev ρ'));rw[BE.Cp,g2];have:=ba.M6 (neq:=true) hg ho hu hx hy hn (P:=c.P) (n0:=c.n0) (hp:=.e) (nx:=z 0) (G:=G);simpa using this
     ·cases h
   ·cases h
 ·cases h
end
end Go.Rd
namespace Go.Rd
open Go.aK Go.RowKit Go.Rt
section
variable {c:Cx}{T:Tm}{G:GH}{Γ:dI}{ρ ρ':bm}{s s':SS}{cf:Cf}{ops:Array Oper}{i:Nat}
theorem gh {t:Nat}{v:SV}(h:JR s (.tmp t)=some v)(hq:Q c T G Γ (s.den ρ)):T.at t=v.den ρ:=hq.at_ _ _ (gH h)
def DP (s:SS)(y:Nat)(e:LE):Bool:=(oJ s.ty y).isSome&&(aX s e&&aX s (((LE.a (.len y)).sub e).aO (-1)))
theorem ru {y:Nat}{e:LE}(h:DP s y e=true)(hk:Ok c T G Γ ρ s):∃cc g b o cp,oJ s.ty y=some (cc,g)/\(ρ y).vv=.dx b o (ρ y).ns.length cp/\0<=e.ev ρ/\(e.ev ρ).toNat<(ρ y).ns.length/\fF c.P c.Φ G Γ (.sl (ρ y).vv cc (ig ρ g) (ρ y).ns):=by
 unfold DP at h;simp only[za]at h;obtain⟨h1,h2,h3⟩:=h;obtain⟨p,hp⟩:=Option.isSome_iff_exists.1 h1;have ht:=hk.ty (gI (c:=p.1) (g:=p.2) hp);have e1:=av h2 hk.sat;have e2:=av h3 hk.sat;rw[LE.aE,LE.au,LE.aV]at e2;have e2:0<=((ρ y).ns.length:Int)-e.ev ρ+-1:=e2;rcases ht.form with ⟨h,h0⟩|⟨b,o,cp,h⟩
 ·have h0:(ρ y).ns=[]:=h0;rw[h0]at e2;simp at e2;omega
 ·exact⟨p.1,p.2,b,o,cp,hp,h,e1,by omega,ht⟩
theorem me {b o l cp k:Nat}{v:AV}(h:v=.dx b o l cp):pz v k=.bZ b (o+k):=by subst h;rfl
def TA (cf:Cf)(t:TypeId)(x:SV)(f:Nat)(s:SS)(K:SV->SS->R):R:=match fj cf.P t f with
 |some (off,ft)=>bif Nat.beq (af cf.P ft) 0 then .bad 40 s else (match x with
  |.v false [.bZ b o]=>K (sc (.bZ b (o+off))) s
  |.v false [.py y e sz o]=>bif DP s y e then K (sc (.py y e sz (o+off))) s else .bad 41 s
  |.v false [.ref y]=>(match pC s.ty y with|some _=>K (sc (.vb y off)) s|none=>.bad 42 s)
  |.v false [.vb y o]=>(match pC s.ty y with|some _=>K (sc (.vb y (o+off))) s|none=>.bad 42 s)
  |_=>.bad 43 s)
 |none=>.bad 44 s
theorem Cv {t:TypeId}{x f:Nat}{v:SV}{K:SV->SS->R}(ho:(ae ops i).op=.fieldAddr t (.tmp x) f)(hg:(ae ops i).guard=none)(hP:cf.P=c.P)(h:(TA cf t v f s K).Ok)(hk:Ok c T G Γ ρ s)(hx:T.at x=v.den ρ):Lo c T G Γ ops i s ρ K:=by
 unfold TA at h;rw[hP]at h;cases hf:fj c.P t f with
 |none=>rw[hf]at h;cases h
 |some p =>
  obtain⟨off,ft⟩:=p;rw[hf]at h;simp only at h;cases hz:Nat.beq (af c.P ft) 0 with
  |true=>rw[hz]at h;cases h
  |false =>
   rw[hz]at h;simp only[cond_false]at h;split at h
   ·exact Lo.here hk h (ba.field hg ho hx hf hz)
   ·rename_i y e sz o;cases hi:DP s y e with
    |false=>rw[hi]at h;cases h
    |true =>
     rw[hi]at h;obtain⟨cc,g,b,o',cp,_,h1,_⟩:=ru hi hk;have hx:T.at x=.bZ b (o'+((e.ev ρ).toNat*sz+o)):=hx.trans (me h1);refine Lo.here hk h ?_;have:=ba.field hg ho hx hf hz (P:=c.P) (n0:=c.n0) (nt:=c.nt) (hp:=.e) (nx:=z 0) (G:=G);show ba _ _ _ _ _ _ _ _ _ (pz (ρ y).vv ((e.ev ρ).toNat*sz+(o+off)));rw[me h1,show o'+((e.ev ρ).toNat*sz+(o+off))=o'+((e.ev ρ).toNat*sz+o)+off by omega];exact this
   ·rename_i y;cases hp:pC s.ty y with
    |none=>rw[hp]at h;cases h
    |some q =>
     rw[hp]at h;obtain⟨b,hb⟩:=uK (cc:=q.1) (g:=q.2) hk hp;have hx:T.at x=.bZ b 0:=hx.trans hb;refine Lo.here hk h ?_;show ba _ _ _ _ _ _ _ _ _ (mz (ρ y).vv off);rw[hb];exact ba.field hg ho hx hf hz
   ·rename_i y o;cases hp:pC s.ty y with
    |none=>rw[hp]at h;cases h
    |some q =>
     rw[hp]at h;obtain⟨b,hb⟩:=uK (cc:=q.1) (g:=q.2) hk hp;have hx:T.at x=.bZ b (0+o):=hx.trans (by show mz (ρ y).vv o=_;rw[hb];rfl);refine Lo.here hk h ?_;show ba _ _ _ _ _ _ _ _ _ (mz (ρ y).vv (o+off));rw[hb];have:=ba.field hg ho hx hf hz (P:=c.P) (n0:=c.n0) (nt:=c.nt) (hp:=.e) (nx:=z 0) (G:=G);show ba _ _ _ _ _ _ _ _ _ (.bZ b (0+(o+off)));rw[<-zbp];exact this
   ·cases h
def TB (x:SV)(s:SS)(K:SV->SS->R):R:=match x with
 |.v false [.bZ b o]=>K x s
 |.v false [.py y e sz o]=>bif DP s y e then K x s else .bad 41 s
 |.v false [.ref y]=>(match pC s.ty y with|some _=>K x s|none=>.bad 42 s)
 |.v false [.vb y o]=>(match pC s.ty y with|some _=>K x s|none=>.bad 42 s)
 |_=>.bad 45 s
theorem Cw {x:Nat}{v:SV}{K:SV->SS->R}(ho:(ae ops i).op=.nilCheck (.tmp x))(hg:(ae ops i).guard=none)(h:(TB v s K).Ok)(hk:Ok c T G Γ ρ s)(hx:T.at x=v.den ρ):Lo c T G Γ ops i s ρ K:=by
 unfold TB at h;split at h
 ·exact Lo.here hk h (ba.nil hg ho hx)
 ·rename_i y e sz o;cases hi:DP s y e with
  |false=>rw[hi]at h;cases h
  |true =>
   rw[hi]at h;obtain⟨cc,g,b,o',cp,_,h1,_⟩:=ru hi hk;have e1:(SV.v false [.py y e sz o]).den ρ=.bZ b (o'+((e.ev ρ).toNat*sz+o)):=me h1;exact Lo.here hk h (by rw[e1];exact ba.nil hg ho (hx.trans e1))
 ·rename_i y;cases hp:pC s.ty y with
  |none=>rw[hp]at h;cases h
  |some q =>
   rw[hp]at h;obtain⟨b,hb⟩:=uK (cc:=q.1) (g:=q.2) hk hp;have e1:(SV.v false [.ref y]).den ρ=.bZ b 0:=hb;exact Lo.here hk h (by rw[e1];exact ba.nil hg ho (hx.trans e1))
 ·rename_i y o;cases hp:pC s.ty y with
  |none=>rw[hp]at h;cases h
  |some q =>
   rw[hp]at h;obtain⟨b,hb⟩:=uK (cc:=q.1) (g:=q.2) hk hp;have e1:(SV.v false [.vb y o]).den ρ=.bZ b (0+o):=by show mz (ρ y).vv o=_;rw[hb];rfl
   exact Lo.here hk h (by rw[e1];exact ba.nil hg ho (hx.trans e1))
 ·cases h
def TC (cf:Cf)(t:TypeId)(x:SV)(e:SV)(s:SS)(K:SV->SS->R):R:=match x,e with
 |.v false [.ref y],.v false [.int kd e]=>(match oJ s.ty y,cf.P.underlying t with
  |some (cc,g),some (.slice el)=>bif Nat.beq el (cf.Φ.ty cc)&&((cf.P.info? el).isSome&&DP s y e)then K (sc (.py y e (af cf.P el) 0)) s else .bad 46 s
  |_,_=>.bad 47 s)
 |.v false [.bZ b o],.v false [.int kd e]=>(match cf.P.underlying t,cX e with
  |some (.array n el),some (.ofNat k)=>bif (cf.P.info? el).isSome&&Nat.blt k n then K (sc (.bZ b (o+k*af cf.P el))) s else .bad 48 s
  |_,_=>.bad 49 s)
 |.v false [.wA b n],.v false [.int kd e]=>(match cf.P.underlying t,cX e with
  |some (.slice el),some (.ofNat k)=>bif (cf.P.info? el).isSome&&Nat.blt k n then K (sc (.bZ b (0+k*af cf.P el))) s else .bad 54 s
  |_,_=>.bad 55 s)
 |_,_=>.bad 50 s
theorem ba.Ib {P:Program}{n0 nt:Nat}{hp:Tr AO}{nx:Pz}{t e:TypeId}{x b o j n:Nat}{y:Operand}{kd:IntKind}(hg:(ae ops i).guard=none)(ho:(ae ops i).op=.indexAddr t (.tmp x) y)(hx:T.at x=.bZ b o)(hy:a9 nt T y (.int kd (.ofNat j)))(hu:P.underlying t=some (.array n e))
  (hi:(P.info? e).isSome=true) (hlt:j<n):ba P ops n0 nt i T hp nx G (.bZ b (o+j*af P e)):=by
 refine bQ hg fun B w0 ι a w hs=>?_;obtain⟨k,hk⟩:=Option.isSome_iff_exists.1 hi;simp only[execOp,ho];rw[jI hs x hx,a9.at hy hs,eJ];simp only[ak,Sem.run_bind];rw[vT hu ⟨k,hk⟩ hlt];simp
theorem ba.Cy {P:Program}{n0 nt:Nat}{hp:Tr AO}{nx:Pz}{t e:TypeId}{x b o len cap j n:Nat}{y:Operand}{kd:IntKind}(hg:(ae ops i).guard=none)(ho:(ae ops i).op=.indexAddr t (.tmp x) y)(hx:T.at x=.dx b o len cap)(hy:a9 nt T y (.int kd (.ofNat j)))(hu:P.underlying t=some (.slice e))
  (hi:(P.info? e).isSome=true) (hn:af P e=n) (hlt:j<len):ba P ops n0 nt i T hp nx G (.bZ b (o+j*n)):=by
 refine bQ hg fun B w0 ι a w hs=>?_;obtain⟨k,hk⟩:=Option.isSome_iff_exists.1 hi;simp only[execOp,ho];rw[jI hs x hx,a9.at hy hs,eJ];simp only[ak,Sem.run_bind];rw[mQ (by omega),qT hu ⟨k,hk⟩ hlt,hn];simp
theorem Cz {t:TypeId}{x:Nat}{y:Operand}{v u:SV}{K:SV->SS->R}(ho:(ae ops i).op=.indexAddr t (.tmp x) y)(hg:(ae ops i).guard=none)(hP:cf.P=c.P)(hΦ:cf.Φ=c.Φ)(h:(TC cf t v u s K).Ok)(hk:Ok c T G Γ ρ s)(hx:T.at x=v.den ρ)(hy:a9 c.nt T y (u.den ρ)):Lo c T G Γ ops i s ρ K:=by
 unfold TC at h;rw[hP,hΦ]at h;split at h
 ·rename_i y kd e;split at h
  ·rename_i cc g el hf hu;cases hb:(Nat.beq el (c.Φ.ty cc)&&((c.P.info? el).isSome&&DP s y e))with
   |false=>rw[hb]at h;cases h
   |true =>
    rw[hb]at h;simp only[za]at hb;obtain⟨h1,h2,h3⟩:=hb;obtain⟨cc',g',b,o,cp,q1,q2,q3,q4,q5⟩:=ru h3 hk;refine Lo.here hk h ?_;show ba _ _ _ _ _ _ _ _ _ (pz (ρ y).vv ((e.ev ρ).toNat*af c.P el+0));rw[me q2,zbt];refine ba.Cy hg ho (hx.trans q2) ?_ hu h2 rfl q4 (kd:=kd);have:(SV.v false [.int kd e]).den ρ=.int kd (.ofNat (e.ev ρ).toNat):=by show AV.int kd (e.ev ρ)=_;congr 1;exact (zbm q3).symm
    rw[<-this];exact hy
  ·cases h
 ·rename_i b o kd e;split at h
  ·rename_i n el k hu hc;cases hb:((c.P.info? el).isSome&&Nat.blt k n)with
   |false=>rw[hb]at h;cases h
   |true =>
    rw[hb]at h;rw[za]at hb;refine Lo.here hk h ?_;refine ba.Ib hg ho hx ?_ hu hb.1 (ax hb.2) (kd:=kd);have:(SV.v false [.int kd e]).den ρ=.int kd (.ofNat k):=by show AV.int kd (e.ev ρ)=_;rw[dO hc ρ]
    rw[<-this];exact hy
  ·cases h
 ·rename_i b n kd e;split at h
  ·rename_i el k hu hc;cases hb:((c.P.info? el).isSome&&Nat.blt k n)with
   |false=>rw[hb]at h;cases h
   |true =>
    rw[hb]at h;rw[za]at hb;refine Lo.here hk h ?_;refine ba.Cy hg ho (hx.trans (show _=AV.dx (ρ b).nn 0 n n from rfl)) ?_ hu hb.1 rfl (ax hb.2) (kd:=kd);have:(SV.v false [.int kd e]).den ρ=.int kd (.ofNat k):=by show AV.int kd (e.ev ρ)=_;rw[dO hc ρ]
    rw[<-this];exact hy
  ·cases h
 ·cases h
def AP:List (Nat×LE×LE)->Nat->LE->Option LE
 | [],_,_=>none
 |p::l,y,e=>bif Nat.beq p.1 y&&p.2.1.same e then some p.2.2 else AP l y e
theorem ti:∀{l:List (Nat×LE×LE)}{y:Nat}{e w:LE},AP l y e=some w->∃e',(y,e',w)∈l/\∀ρ,e'.ev ρ=e.ev ρ
 | [],_,_,_,h=>by cases h
 |p::l,y,e,w,h=>by
  have h:(bif Nat.beq p.1 y&&p.2.1.same e then some p.2.2 else AP l y e)=some w:=h;cases hb:(Nat.beq p.1 y&&p.2.1.same e)with
  |true =>
   rw[hb]at h;cases h;rw[za]at hb;have:=zab hb.1;subst this;exact⟨p.2.1,zac ..,LE.bc hb.2⟩
  |false=>rw[hb]at h;obtain⟨e',h1,h2⟩:=ti h;exact⟨e',zaa _ h1,h2⟩
def yb (s:SS)(y:Nat)(e:LE):Option LE:=match cX e with
 |some k=>bif mc k then some (.k 0)else AP s.pw y e
 |none=>AP s.pw y e
theorem yd {y:Nat}{e w:LE}(h:yb s y e=some w)(hs:Sat ρ s):(((ρ y).ns.take (e.ev ρ).toNat).sum:Int)+e.ev ρ=w.ev ρ:=by
 have key:AP s.pw y e=some w->(((ρ y).ns.take (e.ev ρ).toNat).sum:Int)+e.ev ρ=w.ev ρ:=fun h=>by
  obtain⟨e',h1,h2⟩:=ti h;have:=(hs.pw _ h1).2;have this:((((ρ y).ns.take (e'.ev ρ).toNat).sum:Nat):Int)+e'.ev ρ=w.ev ρ:=this;rw[h2 ρ]at this;exact this
 unfold yb at h;cases hc:cX e with
 |none=>rw[hc]at h;exact key h
 |some k =>
  rw[hc]at h;simp only at h;cases hz:mc k with
  |false=>rw[hz]at h;exact key h
  |true =>
   rw[hz]at h;cases h;have:=dO hc ρ;rw[rj hz]at this;rw[this,LE.bk];simp
def ye (cf:Cf)(cc g:Nat)(e:LE)(off n:Nat)(ag:Bool)(bnd:LE)(s:SS)(K:SV->SS->R)(eq:Bool:=false):R :=
 bif Nat.ble (off+n) (cf.Φ.ks cc).length&&(bG s.nx g&&(AM s.nx (ghost s.gs g)&&(e.lt s.nx&&bnd.lt s.nx)))then
  P9 cf g (ghost s.gs g) e (((cf.Φ.ks cc).drop off).take n) (fun xs os s=>K (.v ag xs) (bif eq then aF (aF s (bnd.sub (ji os))) ((ji os).sub bnd)else bif os.isEmpty then s else aF s (bnd.sub (ji os)))) s
 else .bad 51 s
def whole (cf:Cf)(cc off n:Nat):Bool:=cf.Φ.raw cc&&(Nat.beq off 0&&Nat.beq n (cf.Φ.ks cc).length)
def V3 (cf:Cf)(y:Nat)(e:LE)(off n:Nat)(ag:Bool)(cc g:Nat)(s:SS)(K:SV->SS->R):R :=
 bif cf.Φ.fV cc then ye cf cc g e off n ag (.k WU) s K
 else bif Nat.blt y s.nx&&(e.lt s.nx&&bG s.nx g)then (match yb s y e with
  |some w=>bif w.lt s.nx then fresh s fun m s=>ye cf cc g e off n ag (.a (.n m)) (qB (aF s (((((LE.a (.wt y)).sub w).sub (.a (.n m))).aO (-1)))) (y,e.aO 1,(w.add (.a (.n m))).aO 1)) K (whole cf cc off n)else .bad 52 s
  |none=>fresh s fun m s=>ye cf cc g e off n ag (.a (.n m)) (aF s (((LE.a (.wt y)).sub (.a (.n m))).aO (-1))) K (whole cf cc off n))else .bad 53 s
def Qd:List dW->Nat->Nat->LE->Nat->Option SC
 | [],_,_,_,_=>none
 |.el y' c' e' o' v::l,y,cc,e,o=>bif Nat.beq y' y&&(Nat.beq c' cc&&(Nat.beq o' o&&e'.same e))then some v else Qd l y cc e o
 |_::l,y,cc,e,o=>Qd l y cc e o
def TD (l:List dW)(y cc:Nat)(e:LE):Nat->Nat->Option (List SC)
 |_,0=>some []
 |o,n+1=>match Qd l y cc e o,TD l y cc e (o+1) n with|some x,some xs=>some (x::xs)|_,_=>none
def rv (s:SS)(y cc:Nat)(e:LE):Nat->List SC->SS
 |_,[]=>s
 |o,x::xs=>bL (rv s y cc e (o+1) xs) (.el y cc e o x)
def CA (cf:Cf)(y:Nat)(e:LE)(off n:Nat)(ag:Bool)(cc g:Nat)(s:SS)(K:SV->SS->R):R :=
 bif cf.Φ.raw cc&&Nat.blt 0 n then (match TD s.ty y cc e off n with
  |some xs=>K (.v ag xs) s
  |none=>bif Nat.blt y s.nx&&e.lt s.nx then V3 cf y e off n ag cc g s fun v s'=>(match v with|.v ag' xs=>K (.v ag' xs) (rv s' y cc e off xs)|v=>K v s')else .bad 66 s)
 else V3 cf y e off n ag cc g s K
def TE (cf:Cf)(t:TypeId)(x:SV)(s:SS)(K:SV->SS->R):R:=match x with
 |.v false [.bZ b o]=>(match jN s.os b with
  |some (_,cs)=>bif ec cf.P t then (bif Nat.ble (o+af cf.P t) cs.length then K (.v true ((cs.drop o).take (af cf.P t))) s else .bad 54 s)
   else bif cM cf.P t then (match cs[o]? with|some x=>K (sc x) s|none=>.bad 55 s)else .bad 56 s
  |none=>.bad 57 s)
 |.v false [.py y e sz o]=>(match oJ s.ty y with
  |some (cc,g)=>bif DP s y e&&Nat.beq sz (af cf.P (cf.Φ.ty cc))then
   (bif ec cf.P t then CA cf y e o (af cf.P t) true cc g s K else bif cM cf.P t then CA cf y e o 1 false cc g s K else .bad 56 s)else .bad 58 s
  |none=>.bad 59 s)
 |.v false [.ref y]=>(match pC s.ty y with
  |some (cc,g)=>bif cf.Φ.fV cc then (bif ec cf.P t then ye cf cc g (.k 0) 0 (af cf.P t) true (.k WU) s K else bif cM cf.P t then ye cf cc g (.k 0) 0 1 false (.k WU) s K else .bad 56 s)else .bad 62 s
  |none=>.bad 60 s)
 |.v false [.vb y o]=>(match pC s.ty y with
  |some (cc,g)=>bif cf.Φ.fV cc then (bif ec cf.P t then ye cf cc g (.k 0) o (af cf.P t) true (.k WU) s K else bif cM cf.P t then ye cf cc g (.k 0) o 1 false (.k WU) s K else .bad 56 s)else .bad 62 s
  |none=>.bad 60 s)
 |_=>.bad 61 s
theorem KV {Φ:Forms}{d:Gd}{g j:Nat}{ks:List K2}{cs:List AV}{fs:List TF}(h:iz Φ d g j ks cs fs)(off n:Nat):∃f2,iz Φ d g j ((ks.drop off).take n) ((cs.drop off).take n) f2/\jj Φ f2<=jj Φ fs/\∀f∈f2,f∈fs:=by
 have hk:ks=ks.take off++((ks.drop off).take n++(ks.drop off).drop n):=by rw[zdf,zdf]
 rw[hk]at h;obtain⟨f1,f',e1,w1,w2⟩:=iz.split h;obtain⟨f2,f3,e2,w3,w4⟩:=iz.split w2;have hl:=h.len;rw[<-hk]at hl;refine⟨f2,?_,?_,?_⟩
 ·have e3:(List.drop (List.take off ks).length cs).take (List.take n (List.drop off ks)).length=(cs.drop off).take n:=by
    rw[zag,zag,zas];by_cases ho:off<=ks.length
    ·rw[zch ho];by_cases hn:n<=ks.length-off
     ·rw[zch hn]
     ·rw[Nat.min_eq_right (by omega),zc (by rw[zas];omega),zc (by rw[zas];omega)]
    ·rw[Nat.min_eq_right (by omega),zci (by omega),zci (by omega)];simp
  rw[<-e3];exact w3
 ·rw[e1,e2,iI,iI];omega
 ·intro f hf;rw[e1,e2];simp[hf]
theorem KW {Φ:Forms}{d:Gd}{g j:Nat}{ks:List K2}{cs:List AV}{fs:List TF}(h:iz Φ d g j ks cs fs):iz Φ d g j ((ks.drop 0).take ks.length) ((cs.drop 0).take ks.length) fs:=by
 have:=h.len;rw[zca,zca,zc (zad _),zc (by omega)];exact h
theorem CC {cc g J m:Nat}{e bnd:LE}{off n:Nat}{ag eq:Bool}{K:SV->SS->R}{cells:List AV}(hΦ:cf.Φ=c.Φ)(h:(ye cf cc g e off n ag bnd s K eq).Ok)(hk:Ok c T G Γ ρ s)(he:0<=e.ev ρ/\J=(e.ev ρ).toNat)(hE:eY c.P c.Φ G Γ m cc (ig ρ g) J cells)(hb:(m:Int)<=bnd.ev ρ)
  (hq:eq=true->off=0/\n=(c.Φ.ks cc).length/\bnd.ev ρ=(m:Int)/\∃fs,iz c.Φ (Γ.gd (ig ρ g)) (ig ρ g) J (c.Φ.ks cc) cells fs/\jj c.Φ fs=m/\∀f∈fs,fF c.P c.Φ G Γ f:=by exact fun h=>by cases h) :
  fO c T G Γ s ρ fun ρ' s'=>∃xs,(K (.v ag xs) s').Ok/\aD ρ' xs=(cells.drop off).take n:=by
 unfold ye at h;rw[hΦ]at h;cases hc:(Nat.ble (off+n) (c.Φ.ks cc).length&&(bG s.nx g&&(AM s.nx (ghost s.gs g)&&(e.lt s.nx&&bnd.lt s.nx))))with
 |false=>rw[hc]at h;cases h
 |true =>
  rw[hc]at h;simp only[za]at hc;obtain⟨c1,c2,c3,c4,c5⟩:=hc
  obtain⟨f2,m1,m2,m3,m4⟩:∃f2,iz c.Φ (Γ.gd (ig ρ g)) (ig ρ g) J (((c.Φ.ks cc).drop off).take n) ((cells.drop off).take n) f2/\jj c.Φ f2<=m/\(∀f∈f2,fF c.P c.Φ G Γ f)/\(eq=true->bnd.ev ρ=(jj c.Φ f2:Int)):=by
   cases hqe:eq with
   |true =>
    obtain⟨q1,q2,q3,fs,w1,w2,w3⟩:=hq hqe;subst q1 q2;exact⟨fs,KW w1,zea w2,w3,fun _=>by rw[q3,w2]⟩
   |false =>
    obtain⟨fs,w1,w2,w3⟩:=hE;obtain⟨f2,m1,m2,m3⟩:=KV w1 off n;exact⟨f2,m1,by omega,fun f hf=>w3 f (m3 f hf),fun h=>by cases h⟩
  refine (DN hΦ (J:=J) h hk c2 (fun dv hd=>?_) ⟨c4,he⟩ m1 m3).bind fun ρ1 s1 a1 n1 o1 hh=>?_
  ·rw[hd]at c3;exact⟨ax c3,bz hd hk⟩
  ·obtain⟨xs,os,g1,g2,g3,g4⟩:=hh;cases hqe:eq with
   |true =>
    rw[hqe]at g1;have e0:bnd.ev ρ1=(ji os).ev ρ1:=by rw[x7,LE.cg a1 c5,g4,m4 hqe]
    exact fO.mk (s':=Rd.aF (Rd.aF s1 (bnd.sub (ji os))) ((ji os).sub bnd)) (dh.refl _ _) (zad _) ((o1.aF (by rw[LE.au];omega)).aF (by rw[LE.au];omega)) ⟨xs,g1,g2⟩
   |false =>
   rw[hqe]at g1;cases hos:os.isEmpty with
   |true=>rw[hos]at g1;exact fO.here o1 ⟨xs,g1,g2⟩
   |false =>
    rw[hos]at g1;refine fO.mk (s':=Rd.aF s1 (bnd.sub (ji os))) (dh.refl _ _) (zad _) (o1.aF ?_) ⟨xs,g1,g2⟩;rw[LE.au,x7,LE.cg a1 c5,g4];omega
theorem Ic {y cc g:Nat}{e:LE}{off n:Nat}{ag:Bool}{K:SV->SS->R}(hP:cf.P=c.P)(hΦ:cf.Φ=c.Φ)(h:(V3 cf y e off n ag cc g s K).Ok)(hk:Ok c T G Γ ρ s)(he:0<=e.ev ρ)(hlt:(e.ev ρ).toNat<(ρ y).ns.length)(ht:fF c.P c.Φ G Γ (.sl (ρ y).vv cc (ig ρ g) (ρ y).ns))(hfsl:oJ s.ty y=some (cc,g)) :
  fO c T G Γ s ρ fun ρ' s'=>∃xs b o cap kd el size C,(K (.v ag xs) s').Ok/\(ρ y).vv=.dx b o (ρ y).ns.length cap/\G b=some (.cells kd el size C)/\o+(e.ev ρ).toNat*af c.P (c.Φ.ty cc)+af c.P (c.Φ.ty cc)<=C.length/\(c.Φ.ks cc).length=af c.P (c.Φ.ty cc)/\off+n<=(c.Φ.ks cc).length /\
   aD ρ' xs=((((C.drop (o+(e.ev ρ).toNat*af c.P (c.Φ.ty cc))).take (af c.P (c.Φ.ty cc))).drop off).take n):=by
 obtain⟨m,hm⟩:∃m,(ρ y).ns[(e.ev ρ).toNat]?=some m:=⟨_,zaj hlt⟩;obtain⟨b,o,cap,kd,el,size,C,q1,q2,q3,q4,q5⟩:=ht.atE hk.q.ht hm
 have hlen:(c.Φ.ks cc).length=af c.P (c.Φ.ty cc):=by
  obtain⟨fs,w1,_⟩:=q4;rw[<-w1.len,zag,zas];omega
 have fin:∀{ρ1:bm} {s1:SS} {bnd:LE} {eq:Bool},dh s.nx ρ ρ1->s.nx<=s1.nx->Ok c T G Γ ρ1 s1->(ye cf cc g e off n ag bnd s1 K eq).Ok->bG s.nx g=true->e.lt s.nx=true->(m:Int)<=bnd.ev ρ1->(eq=true->whole cf cc off n=true/\bnd.ev ρ1=(m:Int))->fO c T G Γ s ρ fun ρ' s'=>∃xs b o cap kd el size C,(K (.v ag xs) s').Ok/\(ρ y).vv=.dx b o (ρ y).ns.length cap/\G b=some (.cells kd el size C)/\o+(e.ev ρ).toNat*af c.P (c.Φ.ty cc)+af c.P (c.Φ.ty cc)<=C.length/\(c.Φ.ks cc).length=af c.P (c.Φ.ty cc)/\off+n<=(c.Φ.ks cc).length /\
   aD ρ' xs=((((C.drop (o+(e.ev ρ).toNat*af c.P (c.Φ.ty cc))).take (af c.P (c.Φ.ty cc))).drop off).take n):=fun {ρ1 s1 bnd eq} a1 n1 o1 hp hg' hel hb hbe=>by
  have hle:off+n<=(c.Φ.ks cc).length:=by
   unfold ye at hp;rw[hΦ]at hp;cases hc:Nat.ble (off+n) (c.Φ.ks cc).length with
   |false=>rw[hc]at hp;cases hp
   |true=>exact aN hc
  obtain⟨ρ2,s2,a2,n2,o2,xs,g1,g2⟩:=CC hΦ hp o1 (J:=(e.ev ρ).toNat) (by rw[LE.cg a1 hel];exact⟨he,rfl⟩) (by rw[bR a1 hg'];exact q4) hb (fun hq=>by
   obtain⟨w1,w2⟩:=hbe hq;unfold whole at w1;rw[hΦ]at w1;simp only[za]at w1;obtain⟨w1,w3,w4⟩:=w1;rw[bR a1 hg']
   exact⟨aj w3,aj w4,w2,q5 w1⟩)
  exact⟨ρ2,s2,a1.trans a2 n1,by omega,o2,xs,b,o,cap,kd,el,size,C,g1,q1,q2,q3,hlen,hle,g2⟩
 unfold V3 at h;rw[hΦ]at h;cases hu:c.Φ.fV cc with
 |true =>
  rw[hu]at h;have h:(ye cf cc g e off n ag (.k WU) s K).Ok:=h
  have hgl:bG s.nx g=true/\e.lt s.nx=true:=by
   have hp:=h;unfold ye at hp;cases hc:(Nat.ble (off+n) (cf.Φ.ks cc).length&&(bG s.nx g&&(AM s.nx (ghost s.gs g)&&(e.lt s.nx&&(LE.k WU).lt s.nx))))with
   |false=>rw[hc]at hp;cases hp
   |true=>simp only[za]at hc;exact⟨hc.2.1,hc.2.2.2.1⟩
  have hmw:m=WU:=by
   obtain⟨_,ht⟩:=ht;generalize (ρ y).vv=vv at ht;rcases ht with ⟨_,h0⟩|⟨h0,hr⟩|⟨b',cap',L,size',C',r1,r2,r3,_⟩
   ·rw[h0]at hm;simp at hm
   ·generalize (ρ y).ns=nn at hr hm;cases hr with
    |nil=>simp at hm
    |emp _=>simp at hm
    |aY _ hu' _ _=>rw[hu]at hu';cases hu'
   ·obtain⟨_,d2,_⟩:=hk.q.ht.b _ _ r2;refine d2 hu m ?_;rw[r3]at hm;exact zds (zaw hm)
  exact fin (dh.refl _ _) (zad _) hk h hgl.1 hgl.2 (by rw[LE.bk,hmw];exact zby _) (fun h=>by cases h)
 |false =>
  rw[hu]at h;simp only[cond_false]at h;cases hc:(Nat.blt y s.nx&&(e.lt s.nx&&bG s.nx g))with
  |false=>rw[hc]at h;cases h
  |true =>
   rw[hc]at h;simp only[za]at hc;obtain⟨hy,hel,hgl⟩:=hc;have hy:=ax hy;simp only[cond_true]at h;have hsum:((ρ y).ns.take ((e.ev ρ).toNat+1)).sum=((ρ y).ns.take (e.ev ρ).toNat).sum+m:=by rw[List.take_add_one,hm];simp
   have htk:∀(l:List Nat) (k:Nat),(l.take k).sum<=l.sum:=by
    intro l
    induction l with
    |nil=>intro k;simp
    |cons a l ih=>intro k;cases k with
     |zero=>simp
     |succ k=>have:=ih k;simp;omega
   have htot:=htk (ρ y).ns ((e.ev ρ).toNat+1)
   have hwt:∀{ρ1:bm},dh s.nx ρ ρ1->(LE.a (.wt y)).ev ρ1=(((ρ y).ns.sum+(ρ y).ns.length:Nat):Int):=fun {ρ1} a1=>by
    rw[LE.aV];show (((ρ1 y).ns.sum+(ρ1 y).ns.length:Nat):Int)=_;rw[a1 y hy]
   have zJ:∀{ρ1:bm} {k:Nat},ρ1 k=.n m->(LE.a (.n k)).ev ρ1=(m:Int):=fun {ρ1 k} e1=>by rw[LE.aV];show ((ρ1 k).nn:Int)=_;rw[e1];rfl
   cases hw:yb s y e with
   |none =>
    rw[hw]at h;obtain⟨h1,h2,h3,h4⟩:=az h hk (.n m);have hok:=h3.aF (e:=((LE.a (.wt y)).sub (.a (.n s.nx))).aO (-1)) (by rw[LE.aE,LE.au,hwt h2,zJ h4];omega);exact fin h2 (zan _) hok h1 hgl hel (by rw[zJ h4];exact zby _) (fun hq=>⟨hq,zJ h4⟩)
   |some w =>
    rw[hw]at h;simp only at h;cases hwl:w.lt s.nx with
    |false=>rw[hwl]at h;cases h
    |true =>
     rw[hwl]at h;simp only[cond_true]at h;obtain⟨h1,h2,h3,h4⟩:=az h hk (.n m);have hpw:=yd hw hk.sat;have hw2:=LE.cg h2 hwl
     have hok:=(h3.aF (e:=((((LE.a (.wt y)).sub w).sub (.a (.n s.nx))).aO (-1))) (by rw[LE.aE,LE.au,LE.au,hwt h2,zJ h4,hw2];omega)).qB (p:=(y,e.aO 1,(w.add (.a (.n s.nx))).aO 1)) (by
      show 0<=(e.aO 1).ev _/\((((ρ.up s.nx (.n m) y).ns.take ((e.aO 1).ev _).toNat).sum:Nat):Int)+(e.aO 1).ev _=((w.add (.a (.n s.nx))).aO 1).ev _;rw[LE.aE,LE.cg h2 hel,LE.aE,LE.ij,zJ h4,hw2,h2 y hy,show (e.ev ρ+1).toNat=(e.ev ρ).toNat+1 by omega,hsum];refine⟨by omega,?_⟩
      omega)
     exact fin h2 (zan _) hok h1 hgl hel (by rw[zJ h4];exact zby _) (fun hq=>⟨hq,zJ h4⟩)
theorem n5:∀{l:List dW}{y cc o:Nat}{e:LE}{v:SC},Qd l y cc e o=some v->∃e',dW.el y cc e' o v∈l/\∀ρ,e'.ev ρ=e.ev ρ
 | [],_,_,_,_,_,h=>by cases h
 |.el y' c' e' o' v'::l,y,cc,o,e,v,h=>by
  have h:(bif Nat.beq y' y&&(Nat.beq c' cc&&(Nat.beq o' o&&e'.same e))then some v' else Qd l y cc e o)=some v:=h;cases hb:(Nat.beq y' y&&(Nat.beq c' cc&&(Nat.beq o' o&&e'.same e)))with
  |true =>
   rw[hb]at h;cases h;simp only[za]at hb;have h1:=aj hb.1;have h2:=aj hb.2.1;have h3:=aj hb.2.2.1;subst h1 h2 h3;exact⟨e',zac ..,LE.bc hb.2.2.2⟩
  |false=>rw[hb]at h;obtain⟨e2,h1,h2⟩:=n5 h;exact⟨e2,zaa _ h1,h2⟩
 |.sl _ _ _::l,_,_,_,_,_,h=>by obtain⟨e2,h1,h2⟩:=n5 (l:=l) h;exact⟨e2,zaa _ h1,h2⟩
 |.pt _ _ _::l,_,_,_,_,_,h=>by obtain⟨e2,h1,h2⟩:=n5 (l:=l) h;exact⟨e2,zaa _ h1,h2⟩
 |.mp _ _ _::l,_,_,_,_,_,h=>by obtain⟨e2,h1,h2⟩:=n5 (l:=l) h;exact⟨e2,zaa _ h1,h2⟩
theorem Ie {y cc b o l cap size sz:Nat}{el:TypeId}{C:List AV}{e:LE}(hk:Ok c T G Γ ρ s)(hsz:af c.P (c.Φ.ty cc)=sz)(hv:(ρ y).vv=.dx b o l cap)(hG:G b=some (.cells .raw el size C)):∀{n off:Nat}{xs:List SC},TD s.ty y cc e off n=some xs->xs.length=n/\(∀k,k<n->off+k<sz/\C[o+(e.ev ρ).toNat*sz+(off+k)]?=(aD ρ xs)[k]?)
 |0,off,xs,h=>by cases h;exact⟨rfl,fun k hk=>absurd hk (by omega)⟩
 |n+1,off,xs,h=>by
  unfold TD at h;split at h
  ·rename_i x xs' h1 h2;cases h;obtain⟨i1,i2⟩:=Ie hk hsz hv hG h2;obtain⟨e',m1,m2⟩:=n5 h1;obtain⟨b',o',l',cap',el',size',C',t1,t2,t3,t4,t5,t6⟩:=hk.ty m1;have t1:(ρ y).vv=.dx b' o' l' cap':=t1;rw[hv]at t1;cases t1;rw[hG]at t3;cases t3;rw[hsz]at t5 t6;have t6:C[o+(e'.ev ρ).toNat*sz+off]?=some (x.den ρ):=t6;rw[m2 ρ]at t6;refine⟨by simp[i1],fun k hk=>?_⟩;cases k with
   |zero=>exact⟨t5,t6⟩
   |succ k =>
    obtain⟨a1,a2⟩:=i2 k (by omega);refine⟨by omega,?_⟩;rw[show off+(k+1)=off+1+k by omega,a2];rfl
  ·cases h
theorem wG (s:SS)(y cc:Nat)(e:LE):∀(o:Nat)(xs:List SC),(rv s y cc e o xs).nx=s.nx
 |_,[]=>rfl
 |o,x::xs=>wG s y cc e (o+1) xs
theorem wH {y cc b o l cap size sz:Nat}{el:TypeId}{C:List AV}{e:LE}(hsz:af c.P (c.Φ.ty cc)=sz)(hv:(ρ y).vv=.dx b o l cap)(hG:G b=some (.cells .raw el size C))(hlt:(e.ev ρ).toNat<l)(hle:o+l*sz<=C.length):∀{xs:List SC}{off:Nat},Ok c T G Γ ρ s->(∀k,k<xs.length->off+k<sz/\C[o+(e.ev ρ).toNat*sz+(off+k)]?=(aD ρ xs)[k]?)->Ok c T G Γ ρ (rv s y cc e off xs)
 | [],off,hk,_=>hk
 |x::xs,off,hk,h=>by
  refine (wH hsz hv hG hlt hle hk fun k hkl=>?_).bL ?_
  ·obtain⟨a1,a2⟩:=h (k+1) (by simp;omega);refine⟨by omega,?_⟩;rw[show off+1+k=off+(k+1) by omega,a2];rfl
  ·obtain⟨a1,a2⟩:=h 0 (by simp);refine⟨b,o,l,cap,el,size,C,hv,hlt,hG,by rw[hsz];exact hle,by rw[hsz];omega,?_⟩;rw[hsz];exact a2
theorem DQ {y cc g:Nat}{e:LE}{off n:Nat}{ag:Bool}{K:SV->SS->R}(hP:cf.P=c.P)(hΦ:cf.Φ=c.Φ)(h:(CA cf y e off n ag cc g s K).Ok)(hk:Ok c T G Γ ρ s)(he:0<=e.ev ρ)(hlt:(e.ev ρ).toNat<(ρ y).ns.length)(ht:fF c.P c.Φ G Γ (.sl (ρ y).vv cc (ig ρ g) (ρ y).ns))(hfsl:oJ s.ty y=some (cc,g)) :
  fO c T G Γ s ρ fun ρ' s'=>∃xs b o cap kd el size C,(K (.v ag xs) s').Ok/\(ρ y).vv=.dx b o (ρ y).ns.length cap/\G b=some (.cells kd el size C)/\o+(e.ev ρ).toNat*af c.P (c.Φ.ty cc)+af c.P (c.Φ.ty cc)<=C.length/\(c.Φ.ks cc).length=af c.P (c.Φ.ty cc)/\off+n<=(c.Φ.ks cc).length /\
   aD ρ' xs=((((C.drop (o+(e.ev ρ).toNat*af c.P (c.Φ.ty cc))).take (af c.P (c.Φ.ty cc))).drop off).take n):=by
 unfold CA at h;rw[hΦ]at h;cases hr:(c.Φ.raw cc&&Nat.blt 0 n)with
 |false=>rw[hr]at h;exact Ic hP hΦ h hk he hlt ht hfsl
 |true =>
  rw[hr]at h;simp only[cond_true]at h;rw[za]at hr;have hn:=ax hr.2
  -- the block came in
  obtain⟨b,o,cap,el,size,C,v1,v2,v3,v4,v5⟩:∃b o cap el size C,(ρ y).vv=.dx b o (ρ y).ns.length cap/\G b=some (.cells .raw el size C)/\o+(ρ y).ns.length*af c.P (c.Φ.ty cc)<=C.length/\o+(e.ev ρ).toNat*af c.P (c.Φ.ty cc)+af c.P (c.Φ.ty cc)<=C.length/\(c.Φ.ks cc).length=af c.P (c.Φ.ty cc):=by
   obtain⟨_,ht⟩:=ht;generalize (ρ y).vv=vv at ht;generalize (ρ y).ns=nn at ht hlt
   have hmul:(e.ev ρ).toNat*af c.P (c.Φ.ty cc)+af c.P (c.Φ.ty cc)<=nn.length*af c.P (c.Φ.ty cc):=by
    have:((e.ev ρ).toNat+1)*af c.P (c.Φ.ty cc)<=nn.length*af c.P (c.Φ.ty cc):=zae _ hlt;rwa[zau]at this
   rcases ht with ⟨_,h0⟩|⟨_,hr⟩|⟨b',cap',L,size',C',r1,r2,r3,_⟩
   ·rw[h0]at hlt;simp at hlt
   ·cases hr with
    |nil=>simp at hlt
    |emp _=>simp at hlt
    |@aY b o cap size _ el C _ hb hu hl h =>
     have hel:=h _ _ (zaj hlt);refine⟨b,o,cap,el,size,C,rfl,hb,hl,by omega,?_⟩;cases hel with
     |mk fs hw _ _ _ _ _=>rw[<-(hw 0).len,zag,zas];omega
   ·have:=(hk.q.ht.b _ _ r2).1.2;rw[hr.1]at this;cases this
  cases hel:TD s.ty y cc e off n with
  |some xs =>
   rw[hel]at h;obtain⟨i1,i2⟩:=Ie hk rfl v1 v2 hel;have hle:off+n<=af c.P (c.Φ.ty cc):=by have:=(i2 (n-1) (by omega)).1;omega
   refine fO.here hk ⟨xs,b,o,cap,.raw,el,size,C,h,v1,v2,v4,v5,by rw[v5];exact hle,?_⟩;apply zdg;intro k;by_cases hkn:k<n
   ·rw[<-(i2 k hkn).2,zbe hkn,zbb,zbe (by omega),zbb]
   ·rw[zbq (by simp[aD];omega),zbq (by rw[zag];omega)]
  |none =>
   rw[hel]at h;simp only at h;cases hyl:(Nat.blt y s.nx&&e.lt s.nx)with
   |false=>rw[hyl]at h;cases h
   |true =>
    rw[hyl]at h;simp only[cond_true]at h;rw[za]at hyl;obtain⟨ρ',s',a,n',o',xs,b2,o2,cap2,kd2,el2,size2,C2,k1,k2,k3,k4,k5,k6,k7⟩:=Ic hP hΦ h hk he hlt ht hfsl;rw[v1]at k2;cases k2;rw[v2]at k3;cases k3;have k1:(K (.v ag xs) (rv s' y cc e off xs)).Ok:=k1;have hy2:=a y (ax hyl.1);have he2:e.ev ρ'=e.ev ρ:=LE.cg a hyl.2
    have hxl:xs.length=n:=by
     have:=congrArg List.length k7;rw[zag,zas,zag,zas]at this;simp only[aD,zde]at this;omega
    refine⟨ρ',rv s' y cc e off xs,a,by rw[wG];exact n',wH (b:=b) (o:=o) (l:=(ρ y).ns.length) (cap:=cap) (size:=size) (el:=el) (C:=C) rfl (by rw[hy2];exact v1) v2 (by rw[he2];exact hlt) v3 o' fun k hkl=>?_,xs,b,o,cap,.raw,el,size,C,k1,v1,v2,k4,k5,k6,k7⟩;rw[hxl]at hkl;refine⟨by omega,?_⟩;rw[he2,k7,zbe hkl,zbb,zbe (by omega),zbb]
theorem ry (ρ:bm)(cs:List SC)(o n:Nat):aD ρ ((cs.drop o).take n)=((aD ρ cs).drop o).take n:=by simp[aD]
theorem Ig {C:List AV}{p n:Nat}{xs:List SC}(h:aD ρ xs=(C.drop p).take n)(hn:n=1)(hp:p<C.length):∃x,xs=[x]/\C[p]?=some (x.den ρ):=by
 subst hn;have e1:(C.drop p).take 1=[C[p]]:=by rw[List.drop_eq_getElem_cons hp,List.take_succ_cons,List.take_zero]
 rw[e1]at h;cases xs with
 |nil=>cases h
 |cons x xs =>
  have h:x.den ρ::aD ρ xs=[C[p]]:=h;rw[List.cons.injEq]at h;have hnil:xs=[]:=by cases xs with|nil=>rfl|cons _ _=>cases h.2
  subst hnil;exact⟨x,rfl,by rw[zaj hp,h.1]⟩
theorem Ng (x:SC)(ρ:bm):x.den ρ≠aG:=by
 have key:∀v:AV,cD v=true->v≠aG:=fun v h e=>by subst e;cases h
 cases x with
 |ref x=>exact key _ (U.rh _)
 |py x i sz o =>
  refine key _ ?_;show cD (pz _ _)=true;unfold pz;split<;>rfl
 |vb x o =>
  refine key _ ?_;show cD (mz _ _)=true;unfold mz;split<;>rfl
 |_=>exact fun h=>by cases h
theorem KX (xs:List SC)(ρ:bm):aG∉aD ρ xs:=fun h=>by
 obtain⟨x,_,e⟩:=List.mem_map.1 h;exact Ng x ρ e
theorem CD {t:TypeId}{x:Nat}{v:SV}{K:SV->SS->R}(ho:(ae ops i).op=.load t (.tmp x))(hg:(ae ops i).guard=none)(hP:cf.P=c.P)(hΦ:cf.Φ=c.Φ)(h:(TE cf t v s K).Ok)(hk:Ok c T G Γ ρ s)(hx:T.at x=v.den ρ):Lo c T G Γ ops i s ρ K:=by
 -- an object's part
 have obj:∀{y o cc g n:Nat} {ag:Bool},pC s.ty y=some (cc,g)->T.at x=mz (ρ y).vv o->(ye cf cc g (.k 0) o n ag (.k WU) s K).Ok->c.Φ.fV cc=true->(ag=true/\ec c.P t=true/\n=af c.P t)∨(ag=false/\ec c.P t=false/\cM c.P t=true/\n=1)->Lo c T G Γ ops i s ρ K:=fun {y o cc g n ag} hp hxp h hu hc=>by
  obtain⟨b,L,m,size,C,q1,q2,q3,q4,q5,q6,q7⟩:=(hk.ty (jt hp)).deref hk.q.ht;have hmw:m=WU:=(hk.q.ht.b _ _ q2).2.1 hu m (zaw q3)
  have hle:o+n<=(c.Φ.ks cc).length:=by
   have hp:=h;unfold ye at hp;rw[hΦ]at hp;cases hc:Nat.ble (o+n) (c.Φ.ks cc).length with
   |false=>rw[hc]at hp;cases hp
   |true=>exact aN hc
  have hlen:(c.Φ.ks cc).length=af c.P (c.Φ.ty cc):=by
   obtain⟨fs,w1,_⟩:=q7;rw[<-w1.len,zag];omega
  have hq1:(ρ y).vv=.bZ b 0:=q1;rw[hq1]at hxp;have hxp:T.at x=.bZ b (0+o):=hxp;refine (CC hΦ h hk (J:=0) (by rw[LE.bk];exact⟨zby _,rfl⟩) q7 (by rw[LE.bk,hmw];exact zby _)).mono fun ρ2 s2 a2 n2 o2 hh=>?_;obtain⟨xs,g1,g2⟩:=hh
  have e1:((C.take (af c.P (c.Φ.ty cc))).drop o).take n=(C.drop (0+o)).take n:=by
   rw[zec,zex,zch (by omega),zap]
  rw[e1]at g2;rcases hc with ⟨rfl,h1,rfl⟩|⟨rfl,h1,h2,h3⟩
  ·exact⟨_,g1,by
     show ba _ _ _ _ _ _ _ _ _ (.agg (aD ρ2 xs));rw[g2]
     exact ba.DC hg ho hxp h1 rfl q4 (by omega) rfl⟩
  ·obtain⟨u,rfl,hu⟩:=Ig g2 h3 (by omega);exact⟨_,g1,ba.Av hg ho hxp h2 h1 q4 hu⟩
 unfold TE at h;rw[hP,hΦ]at h;split at h
 ·rename_i b o;cases hl:jN s.os b with
  |none=>rw[hl]at h;cases h
  |some p =>
   obtain⟨el,cs⟩:=p;rw[hl]at h;simp only at h;have hG:=hk.loc hl;have hx:T.at x=.bZ (ρ b).nn o:=hx;have kL:(aD ρ cs).length=cs.length:=by simp[aD]
   cases ha:ec c.P t with
   |true =>
    rw[ha]at h;cases hb:Nat.ble (o+af c.P t) cs.length with
    |false=>rw[hb]at h;cases h
    |true =>
     rw[hb]at h;refine Lo.here hk h ?_;show ba _ _ _ _ _ _ _ _ _ (.agg (aD ρ _));rw[ry];exact ba.DC hg ho hx ha rfl hG (by rw[kL];exact aN hb) rfl
   |false =>
    rw[ha]at h;cases hkn:cM c.P t with
    |false=>rw[hkn]at h;cases h
    |true =>
     rw[hkn]at h;simp only[cond_true,cond_false]at h;cases hc:cs[o]? with
     |none=>rw[hc]at h;cases h
     |some u =>
      rw[hc]at h;exact Lo.here hk h (ba.Av hg ho hx hkn ha hG (by simp[aD,hc];rfl))
 ·rename_i y e sz o;cases hf:oJ s.ty y with
  |none=>rw[hf]at h;cases h
  |some p =>
   obtain⟨cc,g⟩:=p;rw[hf]at h;simp only at h;cases hc:(DP s y e&&Nat.beq sz (af c.P (c.Φ.ty cc)))with
   |false=>rw[hc]at h;cases h
   |true =>
    rw[hc]at h;simp only[cond_true]at h;rw[za]at hc;obtain⟨cc',g',b0,o0,cp0,r1,r2,r3,r4,r5⟩:=ru hc.1 hk;rw[hf]at r1;simp only[Option.some.injEq,Prod.mk.injEq]at r1;obtain⟨rfl,rfl⟩:=r1;have hsz:=aj hc.2;subst hsz
    have fin:∀{n:Nat} {ag:Bool},(CA cf y e o n ag cc g s K).Ok->(ag=true/\ec c.P t=true/\n=af c.P t)∨(ag=false/\ec c.P t=false/\cM c.P t=true/\n=1)->Lo c T G Γ ops i s ρ K:=fun {n ag} h hcs=>by
     refine (DQ hP hΦ h hk r3 r4 r5 hf).mono fun ρ2 s2 a2 n2 o2 hh=>?_;obtain⟨xs,b,o',cap,kd,el,size,C,g1,g2,g3,g4,g5,g6,g7⟩:=hh;have hx:T.at x=.bZ b (o'+((e.ev ρ).toNat*af c.P (c.Φ.ty cc)+o)):=hx.trans (me g2)
     have e1:(((C.drop (o'+(e.ev ρ).toNat*af c.P (c.Φ.ty cc))).take (af c.P (c.Φ.ty cc))).drop o).take n=(C.drop (o'+((e.ev ρ).toNat*af c.P (c.Φ.ty cc)+o))).take n:=by
      rw[zec,zex,zct,zch (by omega),zbp]
     rw[e1]at g7;rcases hcs with ⟨rfl,h1,rfl⟩|⟨rfl,h1,h2,h3⟩
     ·exact⟨_,g1,by
        show ba _ _ _ _ _ _ _ _ _ (.agg (aD ρ2 xs));rw[g7]
        exact ba.DC hg ho hx h1 rfl g3 (by omega) rfl (fun _=>by rw[<-g7];exact KX xs ρ2)⟩
     ·obtain⟨u,rfl,hu⟩:=Ig g7 h3 (by omega);exact⟨_,g1,ba.Av hg ho hx h2 h1 g3 hu (fun _=>Ng u ρ2)⟩
    cases ha:ec c.P t with
    |true=>rw[ha]at h;exact fin h (.inl ⟨rfl,ha,rfl⟩)
    |false =>
     rw[ha]at h;cases hkn:cM c.P t with
     |false=>rw[hkn]at h;cases h
     |true=>rw[hkn]at h;exact fin h (.inr ⟨rfl,ha,hkn,rfl⟩)
 ·rename_i y;cases hf:pC s.ty y with
  |none=>rw[hf]at h;cases h
  |some p =>
   obtain⟨cc,g⟩:=p;rw[hf]at h;simp only at h;have hx:T.at x=mz (ρ y).vv 0:=hx.trans (by obtain⟨b,hb⟩:=uK hk hf;show (ρ y).vv=_;rw[hb];rfl);cases hu:c.Φ.fV cc with
   |false=>rw[hu]at h;cases h
   |true =>
    rw[hu]at h;cases ha:ec c.P t with
    |true=>rw[ha]at h;exact obj hf hx h hu (.inl ⟨rfl,ha,rfl⟩)
    |false =>
     rw[ha]at h;cases hkn:cM c.P t with
     |false=>rw[hkn]at h;cases h
     |true=>rw[hkn]at h;exact obj hf hx h hu (.inr ⟨rfl,ha,hkn,rfl⟩)
 ·rename_i y o;cases hf:pC s.ty y with
  |none=>rw[hf]at h;cases h
  |some p =>
   obtain⟨cc,g⟩:=p;rw[hf]at h;simp only at h;cases hu:c.Φ.fV cc with
   |false=>rw[hu]at h;cases h
   |true =>
    rw[hu]at h;cases ha:ec c.P t with
    |true=>rw[ha]at h;exact obj hf hx h hu (.inl ⟨rfl,ha,rfl⟩)
    |false =>
     rw[ha]at h;cases hkn:cM c.P t with
     |false=>rw[hkn]at h;cases h
     |true=>rw[hkn]at h;exact obj hf hx h hu (.inr ⟨rfl,ha,hkn,rfl⟩)
 ·cases h
def TG (cf:Cf)(t:TypeId)(x:SV)(s:SS)(K:SV->SS->R):R:=match cf.P.underlying t,x with
 |some (.slice _),.v false [.ab]=>K (sc (.int .i64 (.k 0))) s
 |some (.slice _),.v false [.ref y]=>(match oJ s.ty y with|some _=>K (sc (.int .i64 (.a (.len y)))) s|none=>.bad 63 s)
 |some .string,.v false [.str y]=>K (sc (.int .i64 (.a (.sl y)))) s
 |some .string,.v false [.my l _]=>K (sc (.int .i64 (.k l))) s
 |_,_=>.bad 64 s
theorem CG {cl:Call}{t:TypeId}{ats:List TypeId}{x:Operand}{v:SV}{K:SV->SS->R}(ho:(ae ops i).op=.call cl)(hc:cl.callee=.builtin .len)(hats:cl.argTypes.toList=t::ats)(hxa:cl.args.toList=[x])(hg:(ae ops i).guard=none)(hP:cf.P=c.P)(h:(TG cf t v s K).Ok)(hk:Ok c T G Γ ρ s)(hx:a9 c.nt T x (v.den ρ)):Lo c T G Γ ops i s ρ K:=by
 unfold TG at h;rw[hP]at h;split at h
 ·rename_i e hu;refine Lo.here hk h ?_;show ba _ _ _ _ _ _ _ _ _ (.int .i64 ((LE.k 0).ev ρ));rw[LE.bk];exact ba.KN (n:=0) hg ho hc hats hxa hu hx (.inl ⟨rfl,rfl⟩)
 ·rename_i e y hu;cases hf:oJ s.ty y with
  |none=>rw[hf]at h;cases h
  |some p =>
   rw[hf]at h;refine Lo.here hk h ?_;show ba _ _ _ _ _ _ _ _ _ (.int .i64 ((LE.a (.len y)).ev ρ));rw[LE.aV];refine ba.KN (n:=(ρ y).ns.length) hg ho hc hats hxa hu hx ?_;rcases (hk.ty (gI (c:=p.1) (g:=p.2) hf)).form with ⟨h1,h2⟩|⟨b,o,cp,h1⟩
   ·have h2:(ρ y).ns=[]:=h2;exact .inl ⟨h1,by rw[h2];rfl⟩
   ·exact .inr ⟨b,o,cp,h1⟩
 ·rename_i y hu;refine Lo.here hk h ?_;show ba _ _ _ _ _ _ _ _ _ (.int .i64 ((LE.a (.sl y)).ev ρ));rw[LE.aV];exact ba.HZ hg ho hc hats hxa hu hx
 ·rename_i l m hu;refine Lo.here hk h ?_;show ba _ _ _ _ _ _ _ _ _ (.int .i64 ((LE.k l).ev ρ));rw[LE.bk];exact ba.HZ hg ho hc hats hxa hu hx
 ·cases h
end
end Go.Rd
