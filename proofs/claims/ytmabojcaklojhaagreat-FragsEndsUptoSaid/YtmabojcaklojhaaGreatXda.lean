/- Part Xda of the proof of FragsEnds: no condition. -/
import Derived.Test.YtmabojcaklojhaaGreatXad
set_option linter.unusedSimpArgs false
set_option linter.unusedVariables false
namespace Go.Rt
open Go.aQ Go.RowKit
inductive K2 where
 | int (k:IntKind) | nat (b:Nat) | str | qb | uc (b:Nat) | bool | n6 (k:FloatKind)
 | sl (c:Nat) | Ax (c b:Nat) | zG (c b:Nat) | xq (c b:Nat) | yS (c:Nat)
 | ptr (c:Nat) | D1 (c:Nat) | mp (c:Nat) | D2 (c:Nat) | bad
inductive MV where | kd (k:K2) | unit | JB (b:Nat) | HK
structure Forms where
 ks:Nat->List K2
 ty:Nat->TypeId
 fy:Nat->Bool
 dep:Nat->Bool
 via:Nat->Bool
 pk:Nat->KK
 mv:Nat->MV
 raw:Nat->Bool
structure Gd where
 n:Nat->Nat
 at_:Nat->Nat->Option Nat
 fl:Nat->Nat
 fz:Bool
 sub:Nat
def Gd.d0:Gd:=⟨fun _=>0,fun _ _=>none,fun _=>0,false,0⟩
structure Gd.Le (a b:Gd):Prop where
 n:∀k,a.n k<=b.n k
 at_:∀l m j,a.at_ l m=some j->b.at_ l m=some j
 fz:a.fz=true->b=a
 sub:b.sub=a.sub
theorem Gd.Le.refl (a:Gd):a.Le a:=⟨fun _=>Nat.le_refl _,fun _ _ _ h=>h,fun _=>rfl,rfl⟩
theorem Gd.Le.trans {a b c:Gd} (h:a.Le b) (h':b.Le c):a.Le c:=⟨fun k=>Nat.le_trans (h.n k) (h'.n k),fun l m j e=>h'.at_ l m j (h.at_ l m j e),fun e=>by have:=h.fz e; subst this; exact h'.fz e,h'.sub.trans h.sub⟩
def WU:Nat:=2097152
def kT:Nat:=2147483648
def jJ:Nat:=1099511627776
def gi (Φ:Forms) (d:Gd) (g c:Nat):Nat:=bif Φ.via c then d.sub else bif Φ.dep c then g else 0
inductive TF where
 | sl (v:AV) (c g:Nat) (ns:List Nat)
 | pt (v:AV) (c g:Nat)
 | mp (v:AV) (c g:Nat)
   | el (v:AV) (c j off:Nat) (x:AV)
def TF.v:TF->AV | .sl v _ _ _=>v | .pt v _ _=>v | .mp v _ _=>v | .el v _ _ _ _=>v
def sw (Φ:Forms):TF->Nat
 | .sl _ c _ ns=>bif Φ.fy c then 0 else ns.sum+ns.length
 | _=>0
def iH (Φ:Forms) (fs:List TF):Nat:=(fs.map (sw Φ)).sum
theorem gY (Φ:Forms) (a b:List TF):iH Φ (a++b)=iH Φ a+iH Φ b:=by simp [iH]
def Kv (Φ:Forms) (d:Gd) (g j:Nat):K2->AV->List TF->Prop
 | .int k,v,f=>(∃z,v=.int k z)/\f=[]
 | .nat b,v,f=>(∃n:Nat,v=.int .i64 (.ofNat n)/\n<d.n b)/\f=[]
 | .str,v,f=>(∃l n,v=.str l n/\l<=jJ)/\f=[]
 | .qb,v,f=>(∃l n,v=.str l n/\l<=jJ/\d.at_ l n=some j)/\f=[]
 | .uc b,v,f=>(∃l n,v=.str l n/\l<=jJ/\l<=b)/\f=[]
 | .bool,v,f=>(∃b,v=.bool b)/\f=[]
 | .n6 k,v,f=>(∃b,v=.float k b)/\f=[]
 | .sl c,v,f=>∃ns,f=[.sl v c (gi Φ d g c) ns]
 | .Ax c b,v,f=>∃ns:List Nat,f=[.sl v c (gi Φ d g c) ns]/\ns.length<=b
 | .zG c b,v,f=>∃ns:List Nat,f=[.sl v c (gi Φ d g c) ns]/\ns.length<=d.n b
 | .xq c b,v,f=>∃ns:List Nat,f=[.sl v c (gi Φ d g c) ns]/\d.fz=true/\ns.length=d.n b
 | .yS c,v,f=>∃ns:List Nat,f=[.sl v c (gi Φ d g c) ns]/\d.fz=true/\ns.length=d.fl j
 | .ptr c,v,f=>f=[.pt v c (gi Φ d g c)]
 | .D1 c,v,f=>(v=.dq/\f=[])∨f=[.pt v c (gi Φ d g c)]
 | .mp c,v,f=>f=[.mp v c (gi Φ d g c)]
 | .D2 c,v,f=>(v=.aV/\f=[])∨f=[.mp v c (gi Φ d g c)]
 | .bad,_,_=>False
def gP (Φ:Forms) (d:Gd) (g j:Nat):List K2->List AV->List TF->Prop
 | [],cs,fs=>cs=[]/\fs=[]
 | k::ks,cs,fs=>∃v cs' f fs',cs=v::cs'/\fs=f++fs'/\Kv Φ d g j k v f/\gP Φ d g j ks cs' fs'
theorem qQ {Φ:Forms} {d d':Gd} (h:d.Le d') (g c:Nat):gi Φ d' g c=gi Φ d g c:=by unfold gi; rw [h.sub]
theorem Kv.le {Φ:Forms} {d d':Gd} {g j:Nat} (h:d.Le d') {k:K2} {v:AV} {f:List TF} (hk:Kv Φ d g j k v f):Kv Φ d' g j k v f:=by
 cases k with
 | nat b=>obtain⟨⟨n,h1,h2⟩,h3⟩:=hk; exact⟨⟨n,h1,Nat.lt_of_lt_of_le h2 (h.n b)⟩,h3⟩
 | qb=>obtain⟨⟨l,n,h1,h0,h2⟩,h3⟩:=hk; exact⟨⟨l,n,h1,h0,h.at_ _ _ _ h2⟩,h3⟩
 | sl c=>obtain⟨ns,h1⟩:=hk; exact⟨ns,by rw [qQ h]; exact h1⟩
 | Ax c b=>obtain⟨ns,h1,h2⟩:=hk; exact⟨ns,by rw [qQ h]; exact h1,h2⟩
 | zG c b=>obtain⟨ns,h1,h2⟩:=hk; exact⟨ns,by rw [qQ h]; exact h1,Nat.le_trans h2 (h.n b)⟩
 | xq c b=>obtain⟨ns,h1,h2,h3⟩:=hk; have:=h.fz h2; subst this; exact⟨ns,h1,h2,h3⟩
 | yS c=>obtain⟨ns,h1,h2,h3⟩:=hk; have:=h.fz h2; subst this; exact⟨ns,h1,h2,h3⟩
 | ptr c=>show f=_; rw [qQ h]; exact hk
 | D1 c=>rcases hk with hk | hk
         · exact .inl hk
         · exact .inr (by rw [qQ h]; exact hk)
 | mp c=>show f=_; rw [qQ h]; exact hk
 | D2 c=>rcases hk with hk | hk
         · exact .inl hk
         · exact .inr (by rw [qQ h]; exact hk)
 | bad=>exact hk.elim
 | int k=>exact hk
 | str=>exact hk
 | uc b=>exact hk
 | bool=>exact hk
 | n6 k=>exact hk
theorem gP.le {Φ:Forms} {d d':Gd} {g j:Nat} (h:d.Le d'):∀{ks:List K2} {cs:List AV} {fs:List TF},gP Φ d g j ks cs fs->gP Φ d' g j ks cs fs
 | [],_,_,hk=>hk
 | k::ks,_,_,⟨v,cs',f,fs',h1,h2,h3,h4⟩=>⟨v,cs',f,fs',h1,h2,h3.le h,gP.le h h4⟩
theorem gP.len {Φ:Forms} {d:Gd} {g j:Nat}:∀{ks:List K2} {cs:List AV} {fs:List TF},gP Φ d g j ks cs fs->cs.length=ks.length
 | [],_,_,⟨h,_⟩=>by subst h; rfl
 | k::ks,_,_,⟨v,cs',f,fs',h1,h2,h3,h4⟩=>by subst h1; simp [gP.len h4]
theorem gP.split {Φ:Forms} {d:Gd} {g j:Nat}:∀{ks ks':List K2} {cs:List AV} {fs:List TF},gP Φ d g j (ks++ks') cs fs->∃f1 f2,fs=f1++f2/\gP Φ d g j ks (cs.take ks.length) f1/\gP Φ d g j ks' (cs.drop ks.length) f2
 | [],ks',cs,fs,h=>⟨[],fs,rfl,⟨by simp,rfl⟩,by simpa using h⟩
 | k::ks,ks',_,_,⟨v,cs',f,fs',h1,h2,h3,h4⟩=>by
   subst h1 h2
   obtain⟨f1,f2,e1,e2,e3⟩:=gP.split h4
   exact⟨f++f1,f2,by rw [e1,List.append_assoc],⟨v,_,f,f1,rfl,rfl,h3,e2⟩,e3⟩
theorem gP.join {Φ:Forms} {d:Gd} {g j:Nat}:∀{ks ks':List K2} {cs cs':List AV} {fs fs':List TF},gP Φ d g j ks cs fs->gP Φ d g j ks' cs' fs'->gP Φ d g j (ks++ks') (cs++cs') (fs++fs')
 | [],ks',_,cs',_,fs',⟨h1,h2⟩,h=>by subst h1 h2; exact h
 | k::ks,ks',_,cs',_,fs',⟨v,cs1,f,fs1,h1,h2,h3,h4⟩,h=>by
   subst h1 h2
   exact⟨v,_,f,_,rfl,by rw [List.append_assoc],h3,gP.join h4 h⟩
mutual
inductive wF (P:Program) (Φ:Forms) (G:GH):Nat->Nat->List AV->Prop where
 | mk {m c:Nat} {cs:List AV} (fs:List TF) (h:∀j,gP Φ Gd.d0 0 j (Φ.ks c) cs fs) (hw:iH Φ fs=m) (hg:∀v c' g' ns,.sl v c' g' ns∈fs->g'=0) (hl:∀v c' g' ns,.sl v c' g' ns∈fs->ns.length<=kT) (hf:∀v c' g' ns,.sl v c' g' ns∈fs->nh P Φ G v c' ns) (hn:∀v c' g',.pt v c' g' ∉ fs/\.mp v c' g' ∉ fs):wF P Φ G m c cs
inductive nh (P:Program) (Φ:Forms) (G:GH):AV->Nat->List Nat->Prop where
 | nil {c:Nat}:nh P Φ G .aB c []
 | emp {c b o cp:Nat} (hu:Φ.fy c=false):nh P Φ G (.di b o 0 cp) c []
 | aR {b o cap size c:Nat} {el:TypeId} {C:List AV} {ns:List Nat} (hb:G b=some (.cells .raw el size C)) (hu:Φ.fy c=false) (hl:o+ns.length*ae P (Φ.ty c)<=C.length)
   (h:∀(j m:Nat),ns[j]?=some m->wF P Φ G m c ((C.drop (o+j*ae P (Φ.ty c))).take (ae P (Φ.ty c)))):nh P Φ G (.di b o ns.length cap) c ns
end
structure dE (G G':GH):Prop where
 raw:∀b el size C,G b=some (.cells .raw el size C)->G' b=G b
 Ur:∀b el size C,G b=some (.cells .data el size C)->∃C',G' b=some (.cells .data el size C')
theorem dE.refl (G:GH):dE G G:=⟨fun _ _ _ _ _=>rfl,fun _ _ _ C h=>⟨C,h⟩⟩
mutual
theorem wF.le {P:Program} {Φ:Forms} {G G':GH} (hg:dE G G'):∀{m c:Nat} {cs:List AV},wF P Φ G m c cs->wF P Φ G' m c cs
 | _,_,_,.mk fs h hw h0 hl hf hn=>.mk fs h hw h0 hl (fun v c' g' ns hm=>(hf v c' g' ns hm).le hg) hn
theorem nh.le {P:Program} {Φ:Forms} {G G':GH} (hg:dE G G'):∀{v:AV} {c:Nat} {ns:List Nat},nh P Φ G v c ns->nh P Φ G' v c ns
 | _,_,_,.nil=>.nil
 | _,_,_,.emp hu=>.emp hu
 | _,_,_,.aR hb hu hl h=>.aR (by rw [hg.raw _ _ _ _ hb]; exact hb) hu hl fun j m hj=>(h j m hj).le hg
end
inductive Ds where
 | cells (c g:Nat) (L:List Nat)
 | map (c g:Nat)
structure c8 where
 m:Nat->Option Ds
 gd:Nat->Gd
 ng:Nat
def fx (P:Program) (Φ:Forms) (G:GH) (Γ:c8):TF->Prop
 | .sl v c g ns=>ns.length<=kT/\((v=.aB/\ns=[])∨(g=0/\nh P Φ G v c ns)∨∃b cap L size C,v=.di b 0 ns.length cap/\Γ.m b=some (.cells c g L)/\ns=L.take ns.length/\G b=some (.cells .data (Φ.ty c) size C)/\cap*ae P (Φ.ty c)<=size/\ns.length<=cap)
 | .pt v c g=>∃b L,v=.bW b 0/\Γ.m b=some (.cells c g L)/\0<L.length
 | .mp v c g=>∃b,v=.dG b/\Γ.m b=some (.map c g)
 | .el v c j off x=>∃b o l cap el size C,v=.di b o l cap/\j<l/\G b=some (.cells .raw el size C)/\o+l*ae P (Φ.ty c)<=C.length/\off<ae P (Φ.ty c)/\C[o+j*ae P (Φ.ty c)+off]?=some x
def eI (P:Program) (Φ:Forms) (G:GH) (Γ:c8) (m c g j:Nat) (cs:List AV):Prop:=∃fs,gP Φ (Γ.gd g) g j (Φ.ks c) cs fs/\iH Φ fs<=m/\∀f∈fs,fx P Φ G Γ f
def eE (P:Program) (Φ:Forms) (G:GH) (Γ:c8) (c g:Nat) (es:List (AV × AV)):Prop :=
 (∀p∈es,dK (Φ.pk c) p.1)/\match Φ.mv c with
 | .kd k=>∀p∈es,∃fs,Kv Φ (Γ.gd g) g 0 k p.2 fs/\∀f∈fs,fx P Φ G Γ f
 | .unit=>∀p∈es,p.2=.agg []
 | .JB b=>Φ.pk c=.str/\(Γ.gd g).fz=true/\(∀l n,cq (.str l n) es=((Γ.gd g).at_ l n).map fun j=>.int .i64 (.ofNat j))/\∀l n j,(Γ.gd g).at_ l n=some j->j<(Γ.gd g).n b
 | .HK=>Φ.pk c=.pair/\(Γ.gd g).fz=true/\(∀l n l' n',aO l n l' n'=true->(Γ.gd g).at_ l n=(Γ.gd g).at_ l' n')/\∀p∈es,∃l n l' n' k j,p.1=.agg [.str l n,.str l' n']/\p.2=.int .i64 (.ofNat k)/\(Γ.gd g).fz=true/\(Γ.gd g).at_ l n=some j/\k<(Γ.gd g).fl j
def sX (P:Program) (Φ:Forms) (G:GH) (Γ:c8) (b:Nat):Ds->Prop
 | .cells c g L=>(g<Γ.ng/\Φ.raw c=false)/\(Φ.fy c=true->∀m∈L,m=WU)/\∃size C,G b=some (.cells .data (Φ.ty c) size C)/\C.length=L.length*ae P (Φ.ty c)/\∀j m,L[j]?=some m->eI P Φ G Γ m c g j ((C.drop (j*ae P (Φ.ty c))).take (ae P (Φ.ty c)))
 | .map c g=>g<Γ.ng/\∃es,G b=some (.map es)/\(∀p∈es,nf p.2)/\eE P Φ G Γ c g es
structure HT (P:Program) (Φ:Forms) (G:GH) (Γ:c8):Prop where
 z:Γ.gd 0=Gd.d0/\0<Γ.ng
 b:∀b x,Γ.m b=some x->sX P Φ G Γ b x
def nj:Ds->Ds->Prop
 | .cells c g L,.cells c' g' L'=>c'=c/\g'=g/\∃M,L'=L++M
 | .map c g,.map c' g'=>c'=c/\g'=g
 | _,_=>False
theorem nj.refl (x:Ds):nj x x:=by cases x with
 | cells c g L=>exact⟨rfl,rfl,[],by simp⟩
 | map c g=>exact⟨rfl,rfl⟩
theorem nj.trans {x y z:Ds} (h:nj x y) (h':nj y z):nj x z:=by
 cases x with
 | cells c g L=>cases y with
   | cells c1 g1 L1=>cases z with
     | cells c2 g2 L2=>obtain⟨rfl,rfl,M,rfl⟩:=h; obtain⟨rfl,rfl,M',rfl⟩:=h'; exact⟨rfl,rfl,M++M',by rw [List.append_assoc]⟩
     | map=>exact h'.elim
   | map=>exact h.elim
 | map c g=>cases y with
   | cells=>exact h.elim
   | map c1 g1=>cases z with
     | cells=>exact h'.elim
     | map=>obtain⟨rfl,rfl⟩:=h; exact h'
structure dm (Γ Γ':c8):Prop where
 m:∀b x,Γ.m b=some x->∃y,Γ'.m b=some y/\nj x y
 gd:∀g,g<Γ.ng->(Γ.gd g).Le (Γ'.gd g)
 ng:Γ.ng<=Γ'.ng
theorem dm.refl (Γ:c8):dm Γ Γ:=⟨fun b x h=>⟨x,h,nj.refl x⟩,fun g _=>Gd.Le.refl _,Nat.le_refl _⟩
theorem dm.trans {Γ1 Γ2 Γ3:c8} (h:dm Γ1 Γ2) (h':dm Γ2 Γ3):dm Γ1 Γ3:=⟨fun b x hb=>by
 obtain⟨y,h1,h2⟩:=h.m _ _ hb
 obtain⟨z,h3,h4⟩:=h'.m _ _ h1
 exact⟨z,h3,h2.trans h4⟩,fun g hg=>(h.gd g hg).trans (h'.gd g (Nat.lt_of_lt_of_le hg h.ng)),Nat.le_trans h.ng h'.ng⟩
theorem dm.cells {Γ Γ':c8} (h:dm Γ Γ') {b c g:Nat} {L:List Nat} (hb:Γ.m b=some (.cells c g L)):∃M,Γ'.m b=some (.cells c g (L++M)):=by
 obtain⟨y,h1,h2⟩:=h.m _ _ hb
 cases y with
 | cells c' g' L'=>obtain⟨rfl,rfl,M,rfl⟩:=h2; exact⟨M,h1⟩
 | map=>exact h2.elim
theorem dm.map {Γ Γ':c8} (h:dm Γ Γ') {b c g:Nat} (hb:Γ.m b=some (.map c g)):Γ'.m b=some (.map c g):=by
 obtain⟨y,h1,h2⟩:=h.m _ _ hb
 cases y with
 | cells=>exact h2.elim
 | map c' g'=>obtain⟨rfl,rfl⟩:=h2; exact h1
theorem fx.le {P:Program} {Φ:Forms} {G G':GH} {Γ Γ':c8} {f:TF} (h:fx P Φ G Γ f) (hg:dE G G') (hl:dm Γ Γ'):fx P Φ G' Γ' f:=by
 cases f with
 | sl v c g ns =>
   obtain⟨hlim,h⟩:=h
   refine⟨hlim,?_⟩
   rcases h with h | ⟨h0,h⟩ | ⟨b,cap,L,size,C,h1,h2,h3,h5,h6⟩
   · exact .inl h
   · exact .inr (.inl ⟨h0,h.le hg⟩)
   · obtain⟨M,h4⟩:=hl.cells h2
     obtain⟨C',h5⟩:=hg.Ur _ _ _ _ h5
     refine .inr (.inr ⟨b,cap,L++M,size,C',h1,h4,?_,h5,h6⟩)
     have:ns.length<=L.length:=by
      have:=congrArg List.length h3
      rw [List.length_take] at this
      omega
     rw [List.take_append_of_le_length this]
     exact h3
 | pt v c g =>
   obtain⟨b,L,h1,h2,h3⟩:=h
   obtain⟨M,h4⟩:=hl.cells h2
   exact⟨b,L++M,h1,h4,by rw [List.length_append]; omega⟩
 | mp v c g =>
   obtain⟨b,h1,h2⟩:=h
   exact⟨b,h1,hl.map h2⟩
 | el v c j off x =>
   obtain⟨b,o,l,cap,el,size,C,h1,h2,h3,h4⟩:=h
   exact⟨b,o,l,cap,el,size,C,h1,h2,by rw [hg.raw _ _ _ _ h3]; exact h3,h4⟩
theorem eI.le {P:Program} {Φ:Forms} {G G':GH} {Γ Γ':c8} {m c g j:Nat} {cs:List AV} (h:eI P Φ G Γ m c g j cs) (hg:dE G G') (hl:dm Γ Γ') (hlt:g<Γ.ng):eI P Φ G' Γ' m c g j cs:=by
 obtain⟨fs,h1,h2,h3⟩:=h
 exact⟨fs,h1.le (hl.gd g hlt),h2,fun f hf=>(h3 f hf).le hg hl⟩
theorem eI.more {P:Program} {Φ:Forms} {G:GH} {Γ:c8} {m m' c g j:Nat} {cs:List AV} (h:eI P Φ G Γ m c g j cs) (hm:m<=m'):eI P Φ G Γ m' c g j cs:=by
 obtain⟨fs,h1,h2,h3⟩:=h
 exact⟨fs,h1,by omega,h3⟩
theorem Kv.HL {Φ:Forms} {d:Gd} {g j:Nat} {k:K2} {v:AV} {f:List TF} (h:Kv Φ d g j k v f) (u:AV) (c i o:Nat) (x:AV):TF.el u c i o x ∉ f:=by
 have no:∀y:TF,(∀u c i o x,y≠.el u c i o x)->f=[y]->TF.el u c i o x ∉ f:=fun y hy e hm=>by
  rw [e] at hm; exact hy _ _ _ _ _ (List.mem_singleton.1 hm).symm
 cases k with
 | sl c=>obtain⟨ns,h⟩:=h; exact no _ (fun _ _ _ _ _ e=>by cases e) h
 | Ax c b=>obtain⟨ns,h,_⟩:=h; exact no _ (fun _ _ _ _ _ e=>by cases e) h
 | zG c b=>obtain⟨ns,h,_⟩:=h; exact no _ (fun _ _ _ _ _ e=>by cases e) h
 | xq c b=>obtain⟨ns,h,_⟩:=h; exact no _ (fun _ _ _ _ _ e=>by cases e) h
 | yS c=>obtain⟨ns,h,_⟩:=h; exact no _ (fun _ _ _ _ _ e=>by cases e) h
 | ptr c=>exact no _ (fun _ _ _ _ _ e=>by cases e) h
 | mp c=>exact no _ (fun _ _ _ _ _ e=>by cases e) h
 | D1 c=>rcases h with ⟨_,h⟩ | h
         · rw [h]; exact fun h=>by cases h
         · exact no _ (fun _ _ _ _ _ e=>by cases e) h
 | D2 c=>rcases h with ⟨_,h⟩ | h
         · rw [h]; exact fun h=>by cases h
         · exact no _ (fun _ _ _ _ _ e=>by cases e) h
 | bad=>exact h.elim
 | _=>rw [h.2]; exact fun h=>by cases h
theorem gP.HL {Φ:Forms} {d:Gd} {g j:Nat} (u:AV) (c i o:Nat) (x:AV):∀{ks:List K2} {cs:List AV} {fs:List TF},gP Φ d g j ks cs fs->TF.el u c i o x ∉ fs
 | [],_,_,⟨_,h⟩=>by rw [h]; exact fun h=>by cases h
 | k::ks,_,_,⟨v,cs',f,fs',h1,h2,h3,h4⟩=>by
   subst h1 h2
   intro hm
   rcases List.mem_append.1 hm with hm | hm
   · exact h3.HL u c i o x hm
   · exact gP.HL u c i o x h4 hm
theorem wF.el {P:Program} {Φ:Forms} {G:GH} {Γ:c8} {m c:Nat} {cs:List AV} (h:wF P Φ G m c cs) (hz:Γ.gd 0=Gd.d0) (j:Nat):eI P Φ G Γ m c 0 j cs:=by
 cases h with
 | mk fs h hw h0 hl hf hn =>
   refine⟨fs,by rw [hz]; exact h j,Nat.le_of_eq hw,fun f hm=>?_⟩
   cases f with
   | sl v c' g' ns=>exact⟨hl v c' g' ns hm,.inr (.inl ⟨h0 v c' g' ns hm,hf v c' g' ns hm⟩)⟩
   | pt v c' g'=>exact absurd hm (hn v c' g').1
   | mp v c' g'=>exact absurd hm (hn v c' g').2
   | el v c' i o x=>exact absurd hm ((h 0).HL v c' i o x)
theorem wF.X7 {P:Program} {Φ:Forms} {G:GH} {Γ:c8} {m c:Nat} {cs:List AV} (h:wF P Φ G m c cs) (hz:Γ.gd 0=Gd.d0) (j:Nat):∃fs,gP Φ (Γ.gd 0) 0 j (Φ.ks c) cs fs/\iH Φ fs=m/\∀f∈fs,fx P Φ G Γ f:=by
 cases h with
 | mk fs h hw h0 hl hf hn =>
   refine⟨fs,by rw [hz]; exact h j,hw,fun f hm=>?_⟩
   cases f with
   | sl v c' g' ns=>exact⟨hl v c' g' ns hm,.inr (.inl ⟨h0 v c' g' ns hm,hf v c' g' ns hm⟩)⟩
   | pt v c' g'=>exact absurd hm (hn v c' g').1
   | mp v c' g'=>exact absurd hm (hn v c' g').2
   | el v c' i o x=>exact absurd hm ((h 0).HL v c' i o x)
theorem j3 {α:Type} {ns L:List α} (h:ns=L.take ns.length):ns.length<=L.length:=by
 have:=congrArg List.length h
 rw [List.length_take] at this
 omega
theorem fx.X8 {P:Program} {Φ:Forms} {G:GH} {Γ:c8} {v:AV} {c g:Nat} {ns:List Nat} {j m:Nat} (h:fx P Φ G Γ (.sl v c g ns)) (ht:HT P Φ G Γ) (hj:ns[j]?=some m) :
  ∃b o cap kd el size C,v=.di b o ns.length cap/\G b=some (.cells kd el size C)/\o+j*ae P (Φ.ty c)+ae P (Φ.ty c)<=C.length/\eI P Φ G Γ m c g j ((C.drop (o+j*ae P (Φ.ty c))).take (ae P (Φ.ty c))) /\
   (Φ.raw c=true->∃fs,gP Φ (Γ.gd g) g j (Φ.ks c) ((C.drop (o+j*ae P (Φ.ty c))).take (ae P (Φ.ty c))) fs/\iH Φ fs=m/\∀f∈fs,fx P Φ G Γ f):=by
 have hlt:j<ns.length:=(List.getElem?_eq_some_iff.1 hj).1
 have hmul:∀n,j<n->j*ae P (Φ.ty c)+ae P (Φ.ty c)<=n*ae P (Φ.ty c):=fun n hn=>by
  have:(j+1)*ae P (Φ.ty c)<=n*ae P (Φ.ty c):=Nat.mul_le_mul_right _ hn
  rwa [Nat.succ_mul] at this
 obtain⟨hlim,h⟩:=h
 rcases h with ⟨_,h⟩ | ⟨h0,h⟩ | ⟨b,cap,L,size0,C0,h1,h2,h3,_⟩
 · rw [h] at hj; simp at hj
 · subst h0
   cases h with
   | nil=>simp at hj
   | emp hu=>simp at hj
   | @aR b o cap size _ el C _ hb hu hl h =>
     have:=hmul ns.length hlt
     exact⟨b,o,cap,.raw,el,size,C,rfl,hb,by omega,(h j m hj).el ht.z.1 j,fun _=>(h j m hj).X7 ht.z.1 j⟩
 · obtain⟨⟨_,hr⟩,_,size,C,q1,q2,q3⟩:=ht.b _ _ h2
   have hle:=j3 h3
   have hL:L[j]?=some m:=by
    rw [h3,List.getElem?_take] at hj
    rw [if_pos hlt] at hj
    exact hj
   refine⟨b,0,cap,.data,Φ.ty c,size,C,h1,q1,?_,?_,fun h=>by rw [hr] at h; cases h⟩
   · have:=hmul L.length (by omega)
     rw [q2]; omega
   · rw [Nat.zero_add]; exact q3 j m hL
theorem fx.deref {P:Program} {Φ:Forms} {G:GH} {Γ:c8} {v:AV} {c g:Nat} (h:fx P Φ G Γ (.pt v c g)) (ht:HT P Φ G Γ):∃b L m size C,v=.bW b 0/\Γ.m b=some (.cells c g L)/\L[0]?=some m/\G b=some (.cells .data (Φ.ty c) size C)/\C.length=L.length*ae P (Φ.ty c)/\ae P (Φ.ty c)<=C.length/\eI P Φ G Γ m c g 0 (C.take (ae P (Φ.ty c))):=by
 obtain⟨b,L,h1,h2,h3⟩:=h
 obtain⟨_,_,size,C,q1,q2,q3⟩:=ht.b _ _ h2
 have hL:L[0]?=some L[0]:=List.getElem?_eq_getElem h3
 have:=q3 0 _ hL
 rw [Nat.zero_mul,List.drop_zero] at this
 have hmul:1*ae P (Φ.ty c)<=L.length*ae P (Φ.ty c):=Nat.mul_le_mul_right _ h3
 exact⟨b,L,_,size,C,h1,h2,hL,q1,q2,by omega,this⟩
theorem fx.form {P:Program} {Φ:Forms} {G:GH} {Γ:c8} {v:AV} {c g:Nat} {ns:List Nat} (h:fx P Φ G Γ (.sl v c g ns)):(v=.aB/\ns=[])∨∃b o cp,v=.di b o ns.length cp:=by
 obtain⟨hlim,h⟩:=h
 rcases h with h | ⟨h0,h⟩ | ⟨b,cap,L,size0,C0,h1,_⟩
 · exact .inl h
 · cases h with
   | nil=>exact .inl ⟨rfl,rfl⟩
   | emp hu=>exact .inr ⟨_,_,_,rfl⟩
   | aR hb hu hl h=>exact .inr ⟨_,_,_,rfl⟩
 · exact .inr ⟨b,0,cap,h1⟩
inductive Own where
  | loc (b:Nat) (el:TypeId) (C:List AV)
  | iE (v:AV) (c:Nat) (ms:List Nat)
  | map (b:Nat) (pk:KK) (es:List (AV × AV))
  | ul (v:AV) (c g n:Nat)
  | am (b g k:Nat)
  | im (b k:Nat)
  | bl (v:AV) (el:TypeId) (ms:List Nat)
  | km (b c g n:Nat)
  | it (b:Nat) (m:AV) (n r:Nat) (st ty:Bool)
def Us:AV->Option (Option Nat)
 | .aV=>some none
 | .dG b=>some (some b)
 | _=>none
def left (n:Nat) (seen:List Nat):Nat:=((List.range n).filter fun j=>!seen.contains j).length
def Rw:MV->Bool
 | .kd _=>true
 | .unit=>true
 | _=>false
def qR:AV->Option Nat
 | .di b _ _ _=>some b
 | _=>none
def Own.aR:Own->Option Nat
 | .loc b _ _=>some b
 | .iE v _ _=>qR v
 | .map b _ _=>some b
 | .ul v _ _ _=>qR v
 | .am b _ _=>some b
 | .im b _=>some b
 | .bl v _ _=>qR v
 | .km b _ _ _=>some b
 | .it b _ _ _ _ _=>some b
def Own.Rx:Own->Bool
 | .it _ _ _ _ _ ty=>ty
 | _=>false
def Own.inst:Own->Option Nat
 | .am _ g _=>some g
 | _=>none
def eJ (os:List Own):List Nat:=os.filterMap Own.aR
def cY (P:Program) (Φ:Forms) (G:GH) (Γ:c8):Own->Prop
 | .loc b el C=>G b=some (.cells .loc el C.length C)/\Γ.m b=none
 | .iE v c ms=>Φ.fy c=false/\ms.length<=kT/\((v=.aB/\ms=[])∨∃b cap size C,v=.di b 0 ms.length cap/\Γ.m b=some (.cells c 0 ms)/\G b=some (.cells .data (Φ.ty c) size C)/\cap*ae P (Φ.ty c)<=size/\ms.length<=cap)
 | .map b pk es=>G b=some (.map es)/\Γ.m b=none/\∀p∈es,dK pk p.1
 | .ul v c g n=>g<Γ.ng/\n<=kT/\((v=.aB/\n=0)∨∃b cap size C,v=.di b 0 n cap/\Γ.m b=none/\G b=some (.cells .data (Φ.ty c) size C)/\C.length=n*ae P (Φ.ty c)/\cap*ae P (Φ.ty c)<=size/\n<=cap/\∀j,j<n->eI P Φ G Γ WU c g j ((C.drop (j*ae P (Φ.ty c))).take (ae P (Φ.ty c))))
 | .am b g k=>Γ.m b=none/\g<Γ.ng/\(∀l n j,(Γ.gd g).at_ l n=some j->j<(Γ.gd g).n k)/\∃es,G b=some (.map es)/\(∀p∈es,dK .str p.1/\nf p.2)/\∀l n,cq (.str l n) es=((Γ.gd g).at_ l n).map fun j=>.int .i64 (.ofNat j)
 | .im b k=>Γ.m b=none/\∃es,G b=some (.map es)/\∀p∈es,dK .str p.1/\∃n:Nat,p.2=.int .i64 (.ofNat n)/\n<k
 | .bl v el ms=>ms.length<=kT/\(∀m∈ms,m<=1)/\∃b size,v=.di b 0 ms.length ms.length/\Γ.m b=none/\G b=some (.cells .data el size (ms.map fun m=>.bool (Nat.beq m 0)))
 | .km b c g n=>Γ.m b=none/\g<Γ.ng/\Rw (Φ.mv c)=true/\∃es,G b=some (.map es)/\es.length=n/\(∀p∈es,nf p.2)/\eE P Φ G Γ c g es
 | .it b m n r st ty=>Γ.m b=none/\(∃mo seen,Us m=some mo/\G b=some (.iter mo n seen)/\left n seen=r/\(mo=none->n=0)/\(st=true->∃l j,seen=l++[j]/\j<n))/\(ty=true->∀mb,m=.dG mb->∃c g es,Γ.m mb=some (.map c g)/\G mb=some (.map es)/\es.length=n)
def Ds.fixed (Φ:Forms):Ds->Bool
 | .cells c _ _=>!Φ.fy c
 | .map _ _=>false
structure Rl (Φ:Forms) (S Sg:List Nat) (G:GH) (Γ:c8) (G':GH) (Γ':c8):Prop where
 g:∀b,(G b).isSome=true->b ∉ S->Γ.m b=none->G' b=G b/\Γ'.m b=none
 r:dE G G'
 t:∀b x,Γ.m b=some x->x.fixed Φ=true->b ∉ S->Γ'.m b=some x
 le:dm Γ Γ'
 gs:∀g,g<Γ.ng->g ∉ Sg->Γ'.gd g=Γ.gd g
 QT:∀b,(G b).isSome=true->(G' b).isSome=true
theorem Rl.refl (Φ:Forms) (S Sg:List Nat) (G:GH) (Γ:c8):Rl Φ S Sg G Γ G Γ:=⟨fun _ _ _ h=>⟨rfl,h⟩,dE.refl _,fun _ _ h _ _=>h,dm.refl _,fun _ _ _=>rfl,fun _ h=>h⟩
theorem sX.told {P:Program} {Φ:Forms} {G:GH} {Γ:c8} {b:Nat} {x:Ds} (h:sX P Φ G Γ b x):(G b).isSome=true:=by
 cases x with
 | cells c g L=>obtain⟨_,_,size,C,h,_⟩:=h; rw [h]; rfl
 | map c g=>obtain⟨_,es,h,_⟩:=h; rw [h]; rfl
theorem Rl.trans {Φ:Forms} {P:Program} {S S1 Sg Sg1:List Nat} {G G1 G2:GH} {Γ Γ1 Γ2:c8} (ht:∀b x,Γ.m b=some x->(G b).isSome=true) (h:Rl Φ S Sg G Γ G1 Γ1) (h':Rl Φ S1 Sg1 G1 Γ1 G2 Γ2) (hs:∀b∈S1,b∈S∨G b=none) (hg:∀g∈Sg1,g∈Sg∨Γ.ng<=g):Rl Φ S Sg G Γ G2 Γ2:=by
 have no:∀b,(G b).isSome=true->b ∉ S->b ∉ S1:=fun b hb hn hm=>(hs b hm).elim hn fun e=>by rw [e] at hb; cases hb
 refine⟨fun b hb hn h0=>?_,⟨fun b el size C hb=>?_,fun b el size C hb=>?_⟩,fun b x hx hu hn=>?_,h.le.trans h'.le,fun g hlt hn=>?_,fun b hb=>h'.QT b (h.QT b hb)⟩
 · obtain⟨e1,e2⟩:=h.g b hb hn h0
   obtain⟨e3,e4⟩:=h'.g b (h.QT b hb) (no b hb hn) e2
   exact⟨e3.trans e1,e4⟩
 · have:=h.r.raw b el size C hb
   rw [h'.r.raw b el size C (by rw [this]; exact hb),this]
 · obtain⟨C1,h1⟩:=h.r.Ur b el size C hb
   exact h'.r.Ur b el size C1 h1
 · exact h'.t b x (h.t b x hx hu hn) hu (no b (ht b x hx) hn)
 · rw [h'.gs g (Nat.lt_of_lt_of_le hlt h.le.ng) (fun hm=>(hg g hm).elim hn fun e=>absurd hlt (by omega)),h.gs g hlt hn]
theorem eE.JI {P:Program} {Φ:Forms} {G G':GH} {Γ Γ':c8} {cc g:Nat} {es:List (AV × AV)} (hk:Rw (Φ.mv cc)=true) (h:eE P Φ G Γ cc g es) (hr:dE G G') (hl:dm Γ Γ') (hg:g<Γ.ng):eE P Φ G' Γ' cc g es:=by
 unfold eE at h ⊢
 refine⟨h.1,?_⟩
 have h:=h.2
 cases hm:Φ.mv cc with
 | kd k =>
   rw [hm] at h
   intro p hp
   obtain⟨fs,k1,k2⟩:=h p hp
   exact⟨fs,k1.le (hl.gd g hg),fun f hf=>(k2 f hf).le hr hl⟩
 | unit=>rw [hm] at h; exact h
 | JB b=>rw [hm] at hk; cases hk
 | HK=>rw [hm] at hk; cases hk
theorem cY.br {P:Program} {Φ:Forms} {S Sg:List Nat} {G G':GH} {Γ Γ':c8} {o:Own} (h:cY P Φ G Γ o) (hr:Rl Φ S Sg G Γ G' Γ') (hn:∀b,o.aR=some b->b ∉ S) (hi:∀g,o.inst=some g->Γ'.gd g=Γ.gd g) (hp:o.Rx=true->∀b c g,Γ.m b=some (.map c g)->G' b=G b):cY P Φ G' Γ' o:=by
 cases o with
 | loc b el C =>
   obtain⟨h,h0⟩:G b=_/\Γ.m b=none:=h
   obtain⟨e1,e2⟩:=hr.g b (by rw [h]; rfl) (hn b rfl) h0
   exact⟨by rw [e1]; exact h,e2⟩
 | map b pk es =>
   obtain⟨h,h0,hk⟩:G b=_/\Γ.m b=none/\_:=h
   obtain⟨e1,e2⟩:=hr.g b (by rw [h]; rfl) (hn b rfl) h0
   exact⟨by rw [e1]; exact h,e2,hk⟩
 | iE v c ms =>
   obtain⟨hu,hlim,h⟩:=h
   refine⟨hu,hlim,?_⟩
   rcases h with h | ⟨b,cap,size,C,h1,h2,h3,h4⟩
   · exact .inl h
   · have hb:b ∉ S:=hn b (by rw [h1]; rfl)
     obtain⟨C',hC'⟩:=hr.r.Ur b _ _ _ h3
     exact .inr ⟨b,cap,size,C',h1,hr.t b _ h2 (by simp [Ds.fixed,hu]) hb,hC',h4⟩
 | ul v c g n =>
   obtain⟨hg,hlim,h⟩:=h
   refine⟨Nat.lt_of_lt_of_le hg hr.le.ng,hlim,?_⟩
   rcases h with h | ⟨b,cap,size,C,h1,h2,h3,h4,h5,h6,h7⟩
   · exact .inl h
   · obtain⟨e1,e2⟩:=hr.g b (by rw [h3]; rfl) (hn b (by rw [h1]; rfl)) h2
     exact .inr ⟨b,cap,size,C,h1,e2,by rw [e1]; exact h3,h4,h5,h6,fun j hj=>(h7 j hj).le hr.r hr.le hg⟩
 | am b g k =>
   obtain⟨h0,hg,hk,es,h1,h2,h3⟩:=h
   obtain⟨e1,e2⟩:=hr.g b (by rw [h1]; rfl) (hn b rfl) h0
   have e3:=hi g rfl
   exact⟨e2,Nat.lt_of_lt_of_le hg hr.le.ng,by rw [e3]; exact hk,es,by rw [e1]; exact h1,h2,by rw [e3]; exact h3⟩
 | im b k =>
   obtain⟨h0,es,h1,h2⟩:=h
   obtain⟨e1,e2⟩:=hr.g b (by rw [h1]; rfl) (hn b rfl) h0
   exact⟨e2,es,by rw [e1]; exact h1,h2⟩
 | bl v el ms =>
   obtain⟨hlim,hm,b,size,h1,h2,h3⟩:=h
   obtain⟨e1,e2⟩:=hr.g b (by rw [h3]; rfl) (hn b (by rw [h1]; rfl)) h2
   exact⟨hlim,hm,b,size,h1,e2,by rw [e1]; exact h3⟩
 | km b c g n =>
   obtain⟨h0,hg,hk,es,h1,h2,h3,h4⟩:=h
   obtain⟨e1,e2⟩:=hr.g b (by rw [h1]; rfl) (hn b rfl) h0
   exact⟨e2,Nat.lt_of_lt_of_le hg hr.le.ng,hk,es,by rw [e1]; exact h1,h2,h3,h4.JI hk hr.r hr.le hg⟩
 | it b m n r st ty =>
   obtain⟨h0,⟨mo,seen,h1,h2,h3⟩,h4⟩:=h
   obtain⟨e1,e2⟩:=hr.g b (by rw [h2]; rfl) (hn b rfl) h0
   refine⟨e2,⟨mo,seen,h1,by rw [e1]; exact h2,h3⟩,fun ht mb hm=>?_⟩
   obtain⟨c,g,es,q1,q3,q4⟩:=h4 ht mb hm
   exact⟨c,g,es,hr.le.map q1,by rw [hp ht mb c g q1]; exact q3,q4⟩
def lk:List (Nat × AV)->Nat->Option AV
 | [],_=>none
 | p::l,k=>bif Nat.beq p.1 k then some p.2 else lk l k
structure St where
 L:List (Nat × AV)
 os:List Own
 dL:List TF
 gs:List (Nat × Gd × Bool)
structure Cx where
 P:Program
 Φ:Forms
 n0:Nat
 nt:Nat
 S:List Nat
 Sg:List Nat
 G0:GH
 Γ0:c8
structure Q (c:Cx) (T:Tm) (G:GH) (Γ:c8) (st:St):Prop where
 ml:T.ml=[]
 at_:∀k v,lk st.L k=some v->T.at k=v
 yT:∀b x,c.Γ0.m b=some x->(c.G0 b).isSome=true
 rl:Rl c.Φ c.S c.Sg c.G0 c.Γ0 G Γ
 grow:nc c.n0 c.G0 G
 own:∀o∈st.os,cY c.P c.Φ G Γ o
 new:∀o∈st.os,∀b,o.aR=some b->b∈c.S∨c.G0 b=none
 nd:(eJ st.os).Nodup
 ht:HT c.P c.Φ G Γ
 ty:∀f∈st.dL,fx c.P c.Φ G Γ f
 gs:∀p∈st.gs,p.1<Γ.ng/\Γ.gd p.1=p.2.1/\(p.2.2=true->(p.1∈c.Sg∨c.Γ0.ng<=p.1)/\p.2.1.fz=false/\0<p.1)
def St.put (st:St) (d:Nat) (v:AV):St:=⟨(d,v)::st.L,st.os,st.dL,st.gs⟩
section
variable {c:Cx} {ops:Array Oper} {lig ce ch:List Nat} {i m d f:Nat} {T:Tm} {G:GH} {Γ:c8} {st st':St} {v:AV} {K:Ex->St->Prop} {Kd:St->Prop} {co:Code}
theorem Ky (k:Nat) (p:Nat × AV) (l:List (Nat × AV)):lk (p::l) k=if p.1=k then some p.2 else lk l k:=by
 show (bif Nat.beq p.1 k then some p.2 else lk l k)=_
 by_cases h:p.1=k
 · subst h; simp
 · rw [if_neg h]
   cases hb:Nat.beq p.1 k with
   | true=>exact absurd (Nat.eq_of_beq_eq_true hb) h
   | false=>rfl
theorem Q.put (h:Q c T G Γ st) (d:Nat) (v:AV):Q c (T.put d v) G Γ (st.put d v):=by
 refine⟨by rw [Tm.rK]; exact h.ml,fun k u hk=>?_,h.yT,h.rl,h.grow,h.own,h.new,h.nd,h.ht,h.ty,h.gs⟩
 rw [show (st.put d v).L=(d,v)::st.L from rfl,Ky] at hk
 by_cases e:d=k
 · subst e; rw [if_pos rfl] at hk; rw [Tm.fY]; exact Option.some.inj hk
 · rw [if_neg e] at hk; rw [Tm.iP (fun h=>e h.symm)]; exact h.at_ k u hk
theorem Q.iq (h:Q c T G Γ st) (h1:∀k v,lk st'.L k=some v->lk st.L k=some v) (h2:∃rest,st.os.Perm (st'.os++rest)) (h3:∀f∈st'.dL,f∈st.dL) (h4:∀p∈st'.gs,p∈st.gs):Q c T G Γ st':=by
 obtain⟨rest,hp⟩:=h2
 have hm:∀o∈st'.os,o∈st.os:=fun o ho=>hp.mem_iff.2 (by simp [ho])
 refine⟨h.ml,fun k v hk=>h.at_ k v (h1 k v hk),h.yT,h.rl,h.grow,fun o ho=>h.own o (hm o ho),fun o ho=>h.new o (hm o ho),?_,h.ht,fun f hf=>h.ty f (h3 f hf),fun p hp=>h.gs p (h4 p hp)⟩
 have:=(hp.filterMap Own.aR).nodup_iff.1 h.nd
 rw [List.filterMap_append,List.nodup_append] at this
 exact this.1
end
end Go.Rt
namespace Go.Rd
open Go.aQ Go.RowKit Go.Rt
inductive U where
 | n (x:Nat) | z (x:Int) | b (x:Bool) | s (l m:Nat) | v (x:AV) (ns:List Nat) | g (d:Gd)
def U.nn:U->Nat | .n x=>x | _=>0
def U.zz:U->Int | .z x=>x | _=>0
def U.bb:U->Bool | .b x=>x | _=>false
def U.sl:U->Nat | .s l _=>bif Nat.ble l jJ then l else 0 | _=>0
theorem U.nB {l m:Nat} (h:l<=jJ):(U.s l m).sl=l:=by show (bif Nat.ble l jJ then l else 0)=l; rw [Nat.ble_eq_true_of_le h]; rfl
theorem U.Ay (u:U):u.sl<=jJ:=by
 cases u with
 | s l m =>
   show (bif Nat.ble l jJ then l else 0)<=jJ
   cases h:Nat.ble l jJ with
   | true=>exact aL h
   | false=>exact Nat.zero_le _
 | _=>exact Nat.zero_le _
def U.sm:U->Nat | .s _ m=>m | _=>0
def bZ:AV->Bool
 | .aB=>true | .di _ _ _ _=>true | .dq=>true | .bW _ _=>true | .aV=>true | .dG _=>true
 | _=>false
def U.vv:U->AV | .v x _=>bif bZ x then x else .aB | _=>.aB
theorem U.sZ (u:U):bZ u.vv=true:=by
 cases u with
 | v x l =>
   show bZ (bif bZ x then x else .aB)=true
   cases h:bZ x with
   | true=>exact h
   | false=>rfl
 | _=>rfl
theorem U.jy {x:AV} {l:List Nat} (h:bZ x=true):(U.v x l).vv=x:=by show (bif bZ x then x else .aB)=x; rw [h]; rfl
def U.ns:U->List Nat | .v _ l=>bif Nat.ble l.length kT then l else [] | _=>[]
theorem U.j4 {x:AV} {l:List Nat} (h:l.length<=kT):(U.v x l).ns=l:=by show (bif Nat.ble l.length kT then l else [])=l; rw [Nat.ble_eq_true_of_le h]; rfl
theorem U.Az (u:U):u.ns.length<=kT:=by
 cases u with
 | v x l =>
   show (bif Nat.ble l.length kT then l else []).length<=kT
   cases h:Nat.ble l.length kT with
   | true=>exact aL h
   | false=>exact Nat.zero_le _
 | _=>exact Nat.zero_le _
def U.gg:U->Gd | .g d=>d | _=>Gd.d0
 abbrev bc:=Nat->U
def de (k:Nat) (ρ ρ':bc):Prop:=∀i,i<k->ρ' i=ρ i
theorem de.refl (k:Nat) (ρ:bc):de k ρ ρ:=fun _ _=>rfl
theorem de.trans {k k':Nat} {ρ ρ' ρ2:bc} (h:de k ρ ρ') (h':de k' ρ' ρ2) (hk:k<=k'):de k ρ ρ2:=fun i hi=>(h' i (by omega)).trans (h i hi)
def bc.up (ρ:bc) (k:Nat) (u:U):bc:=fun i=>if i=k then u else ρ i
theorem HM (ρ:bc) (k:Nat) (u:U):de k ρ (ρ.up k u):=fun i hi=>by unfold bc.up; rw [if_neg (by omega)]
theorem cM (ρ:bc) (k:Nat) (u:U):ρ.up k u k=u:=by simp [bc.up]
inductive At where
 | n (k:Nat) | z (k:Nat) | len (k:Nat) | wt (k:Nat) | sl (k:Nat) | gn (k b:Nat)
def At.key:At->Nat
 | .n k=>Nat.mul k 8
 | .z k=>Nat.add (Nat.mul k 8) 1
 | .len k=>Nat.add (Nat.mul k 8) 2
 | .wt k=>Nat.add (Nat.mul k 8) 3
 | .sl k=>Nat.add (Nat.mul k 8) 4
 | .gn k _=>Nat.add (Nat.mul k 8) 5
def At.sec:At->Nat | .gn _ b=>b | _=>0
def At.beq (a b:At):Bool:=bif Nat.beq a.key b.key then Nat.beq a.sec b.sec else false
theorem At.ai {a b:At} (h:a.beq b=true):a=b:=by
 unfold At.beq at h
 cases hb:Nat.beq a.key b.key with
 | false=>rw [hb] at h; cases h
 | true =>
   rw [hb] at h
   have h1:=Nat.eq_of_beq_eq_true hb
   have h2:=Nat.eq_of_beq_eq_true (show Nat.beq a.sec b.sec=true from h)
   cases a<;>cases b<;>simp only [At.key,At.sec,Nat.mul_eq,Nat.add_eq] at h1 h2<;>first | (exfalso; omega) | (congr 1; omega) | (congr 1<;>omega)
def At.id:At->Nat | .n k=>k | .z k=>k | .len k=>k | .wt k=>k | .sl k=>k | .gn k _=>k
def At.ev (ρ:bc):At->Int
 | .n k=>(ρ k).nn
 | .z k=>(ρ k).zz
 | .len k=>(ρ k).ns.length
 | .wt k=>((ρ k).ns.sum+(ρ k).ns.length:Nat)
 | .sl k=>(ρ k).sl
 | .gn k b=>(ρ k).gg.n b
def At.nat:At->Bool | .z _=>false | _=>true
theorem At.Ov {a:At} (h:a.nat=true) (ρ:bc):0<=a.ev ρ:=by cases a<;>first | (simp [At.nat] at h; done) | (simp [At.ev]; try omega)
theorem At.bP {a:At} {k:Nat} {ρ ρ':bc} (h:de k ρ ρ') (ha:a.id<k):a.ev ρ'=a.ev ρ:=by cases a<;>simp only [At.ev,At.id] at ha ⊢<;>rw [h _ ha]
structure LE where
 c:Int
 ts:List (Int × At)
def nk (ρ:bc):List (Int × At)->Int
 | []=>0
 | p::l=>p.1*p.2.ev ρ+nk ρ l
def LE.ev (ρ:bc) (e:LE):Int:=e.c+nk ρ e.ts
def mh:Int->Bool | .ofNat _=>false | .negSucc _=>true
def kU:Int->Bool | .ofNat n=>Nat.beq n 0 | .negSucc _=>false
theorem qc {x:Int} (h:mh x=false):0<=x:=by cases x with | ofNat n=>exact Int.natCast_nonneg n | negSucc n=>cases h
theorem Ow {x:Int} (h:mh x=true):x<0:=by cases x with | ofNat n=>cases h | negSucc n=>omega
theorem qd {x:Int} (h:kU x=true):x=0:=by cases x with | ofNat n=>have:=Nat.eq_of_beq_eq_true h; subst this; rfl | negSucc n=>cases h
theorem wG {x:Int} (h:kU x=false):x≠0:=by rintro rfl; cases h
def HN (k:Int) (a:At):List (Int × At)->List (Int × At)
 | []=>bif kU k then [] else [(k,a)]
 | p::ts=>bif a.beq p.2 then (bif kU (k+p.1) then ts else (k+p.1,a)::ts) else p::HN k a ts
theorem BR (ρ:bc) (k:Int) (a:At):∀ts,nk ρ (HN k a ts)=k*a.ev ρ+nk ρ ts
 | []=>by
   unfold HN
   cases h:kU k with
   | true=>rw [qd h]; simp [nk]
   | false=>simp [nk]
 | p::ts=>by
   unfold HN
   cases hb:a.beq p.2 with
   | true =>
     have:=At.ai hb
     subst this
     cases h:kU (k+p.1) with
     | true =>
       have:=qd h
       have e:k=-p.1:=by omega
       subst e
       simp only [cond_true,nk]
       rw [Int.neg_mul]; omega
     | false=>simp only [cond_true,cond_false,nk,Int.add_mul]; omega
   | false=>simp only [cond_false,nk]; rw [BR ρ k a ts]; omega
def yU:List (Int × At)->List (Int × At)->List (Int × At)
 | [],ys=>ys
 | p::xs,ys=>HN p.1 p.2 (yU xs ys)
theorem yV (ρ:bc):∀xs ys,nk ρ (yU xs ys)=nk ρ xs+nk ρ ys
 | [],ys=>by simp [yU,nk]
 | p::xs,ys=>by rw [yU,BR,yV ρ xs ys,nk]; omega
def Kz (k:Int) (ts:List (Int × At)):List (Int × At):=ts.map fun p=>(k*p.1,p.2)
theorem BS (ρ:bc) (k:Int):∀ts,nk ρ (Kz k ts)=k*nk ρ ts
 | []=>by simp [Kz,nk]
 | p::ts=>by
   have:=BS ρ k ts
   show k*p.1*p.2.ev ρ+nk ρ (Kz k ts)=k*(p.1*p.2.ev ρ+nk ρ ts)
   rw [this,Int.mul_add,Int.mul_assoc]
def LE.add (x y:LE):LE:=⟨x.c+y.c,yU x.ts y.ts⟩
def LE.ji (k:Int) (x:LE):LE:=⟨k*x.c,Kz k x.ts⟩
def LE.sub (x y:LE):LE:=x.add (y.ji (-1))
def LE.k (c:Int):LE:=⟨c,[]⟩
def LE.a (a:At):LE:=⟨0,[(1,a)]⟩
def LE.aW (x:LE) (c:Int):LE:=⟨x.c+c,x.ts⟩
theorem LE.gF (ρ:bc) (x y:LE):(x.add y).ev ρ=x.ev ρ+y.ev ρ:=by simp only [LE.ev,LE.add,yV]; omega
theorem LE.e9 (ρ:bc) (k:Int) (x:LE):(x.ji k).ev ρ=k*x.ev ρ:=by simp only [LE.ev,LE.ji,BS,Int.mul_add]
theorem LE.aw (ρ:bc) (x y:LE):(x.sub y).ev ρ=x.ev ρ-y.ev ρ:=by simp only [LE.sub,LE.gF,LE.e9]; omega
theorem LE.bp (ρ:bc) (c:Int):(LE.k c).ev ρ=c:=by simp [LE.ev,LE.k,nk]
theorem LE.a9 (ρ:bc) (a:At):(LE.a a).ev ρ=a.ev ρ:=by simp [LE.ev,LE.a,nk]
theorem LE.aJ (ρ:bc) (x:LE) (c:Int):(x.aW c).ev ρ=x.ev ρ+c:=by simp only [LE.ev,LE.aW]; omega
def LE.lt (n:Nat) (e:LE):Bool:=e.ts.all fun p=>Nat.blt p.2.id n
theorem BT {k:Nat} {ρ ρ':bc} (h:de k ρ ρ'):∀{ts:List (Int × At)},(ts.all fun p=>Nat.blt p.2.id k)=true->nk ρ' ts=nk ρ ts
 | [],_=>rfl
 | p::ts,ht=>by
   rw [List.all_cons,Bool.and_eq_true] at ht
   rw [nk,nk,BT h ht.2,At.bP h (au ht.1)]
theorem LE.bP {k:Nat} {ρ ρ':bc} (h:de k ρ ρ') {e:LE} (he:e.lt k=true):e.ev ρ'=e.ev ρ:=by unfold LE.ev; rw [BT h he]
def LE.same (x y:LE):Bool:=let d:=x.sub y; kU d.c&&d.ts.isEmpty
theorem LE.bj {x y:LE} (h:x.same y=true) (ρ:bc):x.ev ρ=y.ev ρ:=by
 unfold LE.same at h
 rw [Bool.and_eq_true] at h
 have h1:=qd h.1
 have h2:(x.sub y).ts=[]:=List.isEmpty_iff.1 h.2
 have:=LE.aw ρ x y
 have h3:(x.sub y).ev ρ=0:=by unfold LE.ev; rw [h1,h2]; rfl
 omega
def D3:List (Int × At)->Bool
 | []=>false
 | p::ts=>(mh p.1||!p.2.nat)||D3 ts
theorem wH:∀{ts:List (Int × At)},D3 ts=false->∀ρ,0<=nk ρ ts
 | [],_,ρ=>by simp [nk]
 | p::ts,h,ρ=>by
   unfold D3 at h
   rw [Bool.or_eq_false_iff,Bool.or_eq_false_iff,Bool.not_eq_false'] at h
   obtain⟨⟨h1,h2⟩,h3⟩:=h
   have h1:=qc h1
   have h2:=At.Ov h2 ρ
   have h3:=wH h3 ρ
   have:=Int.mul_nonneg h1 h2
   rw [nk]; omega
inductive Cs where | f (q k i:Nat) | zE (q k x:Nat) | lw (q k x:Nat) | ls (q k x:Nat)
def Ry (k:Nat):LE:=⟨kT,[(-1,.len k)]⟩
def Mq (k:Nat):LE:=⟨0,[(1,.wt k),(-1,.len k)]⟩
def Rz (k:Nat):LE:=⟨jJ,[(-1,.sl k)]⟩
def nD (g f:LE) (q k:Nat):LE:=bif Nat.beq q 1&&Nat.beq k 1 then g.sub f else (g.ji q).sub (f.ji k)
def KC:List LE->Nat->Option LE
 | [],_=>none
 | f::l,i=>bif Nat.beq i 0 then some f else KC l (Nat.pred i)
theorem yW:∀{l:List LE} {i:Nat} {f:LE},KC l i=some f->f∈l
 | [],_,_,h=>by cases h
 | x::l,i,f,h=>by
   unfold KC at h
   cases hb:Nat.beq i 0 with
   | true=>rw [hb] at h; cases h; exact List.mem_cons_self ..
   | false=>rw [hb] at h; exact List.mem_cons_of_mem _ (yW h)
def Cs.fact (fs:List LE):Cs->Option LE | .f _ _ i=>KC fs i | .zE _ _ x=>some (Ry x) | .lw _ _ x=>some (Mq x) | .ls _ _ x=>some (Rz x)
def Cs.q:Cs->Nat | .f q _ _=>q | .zE q _ _=>q | .lw q _ _=>q | .ls q _ _=>q
def Cs.k:Cs->Nat | .f _ k _=>k | .zE _ k _=>k | .lw _ k _=>k | .ls _ k _=>k
def zF (fs:List LE):List Cs->LE->Bool
 | [],g=>bif mh g.c then false else !D3 g.ts
 | x::l,g=>match x.fact fs with
   | some f=>bif Nat.beq x.q 0 then false else zF fs l (nD g f x.q x.k)
   | none=>false
theorem HO {g f:LE} {q k:Nat} {ρ:bc} (hq:Nat.beq q 0=false) (hf:0<=f.ev ρ) (h:0<=(nD g f q k).ev ρ):0<=g.ev ρ:=by
 unfold nD at h
 have h0:q≠0:=fun e=>by subst e; cases hq
 have hk:0<=(k:Int)*f.ev ρ:=Int.mul_nonneg (Int.natCast_nonneg _) hf
 cases hb:(Nat.beq q 1&&Nat.beq k 1) with
 | true=>rw [hb,cond_true,LE.aw] at h; omega
 | false =>
   rw [hb,cond_false,LE.aw,LE.e9,LE.e9] at h
   have hqq:(0:Int)<(q:Int):=by omega
   rcases Int.lt_or_le (g.ev ρ) 0 with hlt | hge
   · have:=Int.mul_neg_of_pos_of_neg hqq hlt
     omega
   · exact hge
theorem HP {fs:List LE} {ρ:bc} (hfs:∀f∈fs,0<=f.ev ρ):∀{l:List Cs} {g:LE},zF fs l g=true->0<=g.ev ρ
 | [],g,h=>by
   unfold zF at h
   cases hc:mh g.c with
   | true=>rw [hc] at h; cases h
   | false =>
     rw [hc,cond_false,Bool.not_eq_true'] at h
     have h1:=qc hc
     have h2:=wH h ρ
     unfold LE.ev; omega
 | x::l,g,h=>by
   unfold zF at h
   split at h
   · rename_i f hf
     cases hq:Nat.beq x.q 0 with
     | true=>rw [hq] at h; cases h
     | false =>
       rw [hq] at h
       refine HO hq ?_ (HP hfs h)
       cases x with
       | f q k i=>exact hfs f (yW hf)
       | zE q k y =>
         cases hf
         have:=U.Az (ρ y)
         simp only [Ry,LE.ev,nk,At.ev]
         omega
       | lw q k y =>
         cases hf
         simp only [Mq,LE.ev,nk,At.ev]
         omega
       | ls q k y =>
         cases hf
         have:=U.Ay (ρ y)
         simp only [Rz,LE.ev,nk,At.ev]
         omega
   · cases h
def At.ps:At->Nat
 | .n k=>Nat.mul k 8
 | .sl k=>Nat.add (Nat.mul k 8) 7
 | .z k=>Nat.add (Nat.mul k 8) 1
 | .wt k=>Nat.add (Nat.mul k 8) 2
 | .len k=>Nat.add (Nat.mul k 8) 3
 | .gn k b=>Nat.add (Nat.mul k 8) (Nat.add 4 b)
def QU:List (Int × At)->Nat
 | []=>0
 | p::l=>match p.1 with | .ofNat k=>Nat.add (QU l) (Nat.shiftLeft k (Nat.mul 64 p.2.ps)) | .negSucc _=>QU l
def QV:List (Int × At)->Nat
 | []=>0
 | p::l=>match p.1 with | .ofNat _=>QV l | .negSucc k=>Nat.add (QV l) (Nat.shiftLeft (Nat.succ k) (Nat.mul 64 p.2.ps))
def U0 (n:Nat):Nat:=Nat.shiftLeft (Nat.div (Nat.sub (Nat.pow 2 (Nat.mul 512 n)) 1) 18446744073709551615) 63
def U1 (n:Nat):Nat:=Nat.shiftLeft (Nat.div (Nat.sub (Nat.pow 2 (Nat.mul 512 n)) 1) (Nat.sub (Nat.pow 2 512) 1)) 127
structure Pk where
 i:Nat
 p:Nat
 n:Nat
 xn:Nat
 xp:Nat
 c:Int
def BU (H p n:Nat):Nat:=Nat.sub H (Nat.land (Nat.sub (Nat.add p H) n) H)
def X9 (H i:Nat) (f:LE):Pk:=⟨i,QU f.ts,QV f.ts,BU H (QU f.ts) (QV f.ts),BU H (QV f.ts) (QU f.ts),f.c⟩
def Xz (H:Nat):Nat->List LE->List Pk
 | _,[]=>[]
 | i,f::l=>X9 H i f::Xz H (Nat.succ i) l
def EM (x ps:Nat):Nat:=Nat.land (Nat.shiftRight x (Nat.mul 64 ps)) 18446744073709551615
def Ox (o:Option (List Cs)) (x:Cs) (r:Option (List Cs)):Option (List Cs):=match o with | some l=>some (x::l) | none=>r
def KD (bit:Nat) (neg:Bool) (kk:Nat) (ps:Nat) (P N:Nat) (c:Int) (K:Nat->Nat->Int->Option (List Cs)):List Pk->Option (List Cs)
 | []=>none
 | f::l=>bif Nat.beq (Nat.land (Nat.shiftRight (bif neg then f.xn else f.xp) bit) 1) 0 then KD bit neg kk ps P N c K l else
   let q:=bif neg then Nat.sub (EM f.n ps) (EM f.p ps) else Nat.sub (EM f.p ps) (EM f.n ps)
   bif Nat.beq q 1&&Nat.beq kk 1 then Ox (K (Nat.add P f.n) (Nat.add N f.p) (Int.sub c f.c)) (.f 1 1 f.i) (KD bit neg kk ps P N c K l)
   else Ox (K (Nat.add (Nat.mul q P) (Nat.mul kk f.n)) (Nat.add (Nat.mul q N) (Nat.mul kk f.p)) (Int.sub (Int.mul q c) (Int.mul kk f.c))) (.f q kk f.i) (KD bit neg kk ps P N c K l)
def Oy (P N:Nat) (c:Int) (K:Nat->Nat->Int->Option (List Cs)):List Pk->Option (List Cs)
 | []=>none
 | f::l=>bif mh f.c then Ox (K (Nat.add P f.n) (Nat.add N f.p) (Int.sub c f.c)) (.f 1 1 f.i) (Oy P N c K l) else Oy P N c K l
def Oz (kk ps P N:Nat) (c:Int) (K:Nat->Nat->Int->Option (List Cs)):List Pk->Option (List Cs)
 | []=>none
 | f::l=>bif mh f.c then
    let fc:=Nat.sub (EM f.p ps) (EM f.n ps)
    let m:=bif Nat.beq fc 0 then 1 else Nat.max 1 (Nat.div kk fc)
    Ox (K (Nat.add P (Nat.mul m f.n)) (Nat.add N (Nat.mul m f.p)) (Int.sub c (Int.mul m f.c))) (.f 1 m f.i) (Oz kk ps P N c K l)
   else Oz kk ps P N c K l
def XA (a b:Option (List Cs)):Option (List Cs):=match a with | some l=>some l | none=>b
def KE (x:Nat):Nat->Nat->Nat
 | 0,a=>a
 | k+1,a=>bif Nat.beq (Nat.shiftRight x (Nat.add a (Nat.pow 2 k))) 0 then KE x k a else KE x k (Nat.add a (Nat.pow 2 k))
def AA (H Z:Nat) (fs:List Pk):Nat->Nat->Nat->Nat->Int->Option (List Cs)
 | 0,_,_,_,_=>none
 | fu+1,ban,P,N,c =>
   let xn:=BU H P N
   let x:=Nat.lor xn (Nat.sub Z (Nat.land (Nat.sub (Nat.add N H) P) Z))
   bif Nat.beq (Nat.land x ban) 0 then
    (bif Nat.beq x 0 then (bif mh c then (let bit:=KE (BU H N P) 21 0
     let ps:=Nat.shiftRight bit 6
     let kk:=Nat.sub (EM P ps) (EM N ps)
     bif Nat.ble kk 1 then Oy P N c (fun P N c=>AA H Z fs fu ban P N c) fs else Oz kk ps P N c (fun P N c=>AA H Z fs fu ban P N c) fs) else some [])
    else
     let bit:=KE x 21 0
     let ps:=Nat.shiftRight bit 6
     let neg:=!Nat.beq (Nat.land (Nat.shiftRight xn bit) 1) 0
     let kk:=bif neg then Nat.sub (EM N ps) (EM P ps) else Nat.sub (EM P ps) (EM N ps)
     let ban':=Nat.lor ban (Nat.shiftLeft 1 bit)
     XA (KD bit neg kk ps P N c (fun P N c=>AA H Z fs fu ban' P N c) fs)
      (bif Nat.beq (Nat.land ps 7) 3 then
       XA (Ox (AA H Z fs fu ban' (Nat.add P (Nat.shiftLeft kk (Nat.mul 64 ps))) (Nat.add N (Nat.shiftLeft kk (Nat.mul 64 (Nat.pred ps)))) c) (.lw 1 kk (Nat.shiftRight ps 3)) none)
        (Ox (AA H Z fs fu ban' (Nat.add P (Nat.shiftLeft kk (Nat.mul 64 ps))) N (Int.sub c (Int.mul kk kT))) (.zE 1 kk (Nat.shiftRight ps 3)) none)
      else bif Nat.beq (Nat.land ps 7) 7 then Ox (AA H Z fs fu ban' (Nat.add P (Nat.shiftLeft kk (Nat.mul 64 ps))) N (Int.sub c (Int.mul kk jJ))) (.ls 1 kk (Nat.shiftRight ps 3)) none else none))
   else none
def Mr (nx:Nat):Nat:=bif Nat.ble nx 120 then 120 else bif Nat.ble nx 500 then 500 else 4000
def pv (fu nx:Nat) (fs:List LE) (g:LE):Bool:=bif !mh g.c&&!D3 g.ts then true else
 let H:=U0 (Mr nx)
 match AA H (U1 (Mr nx)) (Xz H 0 fs) fu 0 (QU g.ts) (QV g.ts) g.c with
 | some l=>zF fs l g
 | none=>false
theorem yX {fs:List LE} {ρ:bc} (hfs:∀f∈fs,0<=f.ev ρ) {n nx:Nat} {g:LE} (h:pv n nx fs g=true):0<=g.ev ρ:=by
 unfold pv at h
 cases hb:(!mh g.c&&!D3 g.ts) with
 | true =>
   rw [Bool.and_eq_true,Bool.not_eq_true',Bool.not_eq_true'] at hb
   have h1:=qc hb.1
   have h2:=wH hb.2 ρ
   unfold LE.ev; omega
 | false =>
   rw [hb,cond_false] at h
   simp only at h
   split at h
   · exact HP hfs h
   · cases h
inductive BE where
 | k (b:Bool) | v (x:Nat) | nv (x:Nat) | ge (e:LE) | eq (e:LE) | ne (e:LE)
def BE.ev (ρ:bc):BE->Bool
 | .k b=>b
 | .v x=>(ρ x).bb
 | .nv x=>!(ρ x).bb
 | .ge e=>decide (0<=e.ev ρ)
 | .eq e=>decide (e.ev ρ=0)
 | .ne e=>!decide (e.ev ρ=0)
def BE.lt (n:Nat):BE->Bool
 | .k _=>true
 | .v x=>Nat.blt x n
 | .nv x=>Nat.blt x n
 | .ge e=>e.lt n
 | .eq e=>e.lt n
 | .ne e=>e.lt n
def BE.not:BE->BE
 | .k b=>.k (!b)
 | .v x=>.nv x
 | .nv x=>.v x
 | .ge e=>.ge ((LE.k (-1)).sub e)
 | .eq e=>.ne e
 | .ne e=>.eq e
theorem BE.AB (ρ:bc) (b:BE):b.not.ev ρ=!b.ev ρ:=by
 cases b with
 | ge e =>
   simp only [BE.not,BE.ev,LE.aw,LE.bp]
   rw [Bool.eq_iff_iff]
   simp only [Bool.not_eq_true',decide_eq_true_eq,decide_eq_false_iff_not]
   omega
 | _=>simp [BE.not,BE.ev]
theorem BE.bP {k:Nat} {ρ ρ':bc} (h:de k ρ ρ') {b:BE} (hb:b.lt k=true):b.ev ρ'=b.ev ρ:=by
 cases b with
 | k b=>rfl
 | v x=>simp only [BE.ev]; rw [h x (au hb)]
 | nv x=>simp only [BE.ev]; rw [h x (au hb)]
 | ge e=>simp only [BE.ev]; rw [LE.bP h hb]
 | eq e=>simp only [BE.ev]; rw [LE.bP h hb]
 | ne e=>simp only [BE.ev]; rw [LE.bP h hb]
def BE.same:BE->BE->Bool
 | .k b,.k b'=>b==b'
 | .v x,.v y=>Nat.beq x y
 | .nv x,.nv y=>Nat.beq x y
 | .ge e,.ge e'=>e.same e'
 | .eq e,.eq e'=>e.same e'
 | .ne e,.ne e'=>e.same e'
 | _,_=>false
theorem BE.bj {x y:BE} (h:x.same y=true) (ρ:bc):x.ev ρ=y.ev ρ:=by
 cases x<;>cases y<;>simp only [BE.same,Bool.false_eq_true] at h
 · rw [beq_iff_eq] at h; subst h; rfl
 · have:=Nat.eq_of_beq_eq_true h; subst this; rfl
 · have:=Nat.eq_of_beq_eq_true h; subst this; rfl
 all_goals (simp only [BE.ev]; rw [LE.bj h ρ])
inductive SC where
 | int (k:IntKind) (e:LE) | bool (b:BE) | str (x:Nat) | lD (l m:Nat) | n6 (k:FloatKind) (x:Nat) | wI (k:FloatKind) (b:Nat)
 | ref (x:Nat) | aB | dq | aV | cg
 | bW (b o:Nat) | og (x:Nat) (i:LE) (sz o:Nat) | tM (x o:Nat) | dG (b:Nat) | fn (f:Nat) | wJ (b n:Nat)
def n7 (v:AV) (k:Nat):AV:=match v with | .di b o _ _=>.bW b (o+k) | _=>.dq
def lE (v:AV) (k:Nat):AV:=match v with | .bW b o=>.bW b (o+k) | _=>.dq
def SC.den (ρ:bc):SC->AV
 | .int k e=>.int k (e.ev ρ)
 | .bool b=>.bool (b.ev ρ)
 | .str x=>.str (ρ x).sl (ρ x).sm
 | .lD l m=>.str l m
 | .n6 k x=>.float k (ρ x).nn
 | .wI k b=>.float k b
 | .ref x=>(ρ x).vv
 | .aB=>.aB | .dq=>.dq | .aV=>.aV | .cg=>.cg
 | .bW b o=>.bW (ρ b).nn o
 | .og x i sz o=>n7 (ρ x).vv ((i.ev ρ).toNat*sz+o)
 | .tM x o=>lE (ρ x).vv o
 | .dG b=>.dG (ρ b).nn
 | .fn f=>.func (.func f) [] []
 | .wJ b n=>.di (ρ b).nn 0 n n
def SC.lt (n:Nat):SC->Bool
 | .int _ e=>e.lt n
 | .bool b=>b.lt n
 | .str x=>Nat.blt x n
 | .n6 _ x=>Nat.blt x n
 | .ref x=>Nat.blt x n
 | .bW b _=>Nat.blt b n
 | .og x i _ _=>Nat.blt x n&&i.lt n
 | .tM x _=>Nat.blt x n
 | .dG b=>Nat.blt b n
 | .wJ b _=>Nat.blt b n
 | _=>true
theorem SC.bP {k:Nat} {ρ ρ':bc} (h:de k ρ ρ') {c:SC} (hc:c.lt k=true):c.den ρ'=c.den ρ:=by
 cases c with
 | int kd e=>simp only [SC.den]; rw [LE.bP h hc]
 | bool b=>simp only [SC.den]; rw [BE.bP h hc]
 | og x i sz o =>
   have hc:(Nat.blt x k&&i.lt k)=true:=hc
   rw [Bool.and_eq_true] at hc
   simp only [SC.den]; rw [h x (au hc.1),LE.bP h hc.2]
 | str x=>simp only [SC.den]; rw [h x (au hc)]
 | n6 kd x=>simp only [SC.den]; rw [h x (au hc)]
 | ref x=>simp only [SC.den]; rw [h x (au hc)]
 | bW x o=>simp only [SC.den]; rw [h x (au hc)]
 | tM x o=>simp only [SC.den]; rw [h x (au hc)]
 | dG x=>simp only [SC.den]; rw [h x (au hc)]
 | wJ x _=>simp only [SC.den]; rw [h x (au hc)]
 | _=>rfl
def cD:IntKind->IntKind->Bool:=fun a b=>decide (a=b)
def n8:FloatKind->FloatKind->Bool:=fun a b=>decide (a=b)
def SC.same:SC->SC->Bool
 | .int k e,.int k' e'=>cD k k'&&e.same e'
 | .bool b,.bool b'=>b.same b'
 | .str x,.str y=>Nat.beq x y
 | .lD l m,.lD l' m'=>Nat.beq l l'&&Nat.beq m m'
 | .n6 k x,.n6 k' y=>n8 k k'&&Nat.beq x y
 | .wI k x,.wI k' y=>n8 k k'&&Nat.beq x y
 | .ref x,.ref y=>Nat.beq x y
 | .aB,.aB=>true
 | .dq,.dq=>true
 | .aV,.aV=>true
 | .cg,.cg=>true
 | .bW b o,.bW b' o'=>Nat.beq b b'&&Nat.beq o o'
 | .og x i s o,.og x' i' s' o'=>Nat.beq x x'&&(i.same i'&&(Nat.beq s s'&&Nat.beq o o'))
 | .tM x o,.tM x' o'=>Nat.beq x x'&&Nat.beq o o'
 | .dG b,.dG b'=>Nat.beq b b'
 | .fn f,.fn f'=>Nat.beq f f'
 | .wJ b o,.wJ b' o'=>Nat.beq b b'&&Nat.beq o o'
 | _,_=>false
theorem SC.bj {x y:SC} (h:x.same y=true) (ρ:bc):x.den ρ=y.den ρ:=by
 cases x<;>cases y<;>simp only [SC.same,Bool.false_eq_true,Bool.and_eq_true,cD,n8,decide_eq_true_eq] at h
 · obtain⟨rfl,h⟩:=h; simp only [SC.den]; rw [LE.bj h ρ]
 · simp only [SC.den]; rw [BE.bj h ρ]
 · have:=Nat.eq_of_beq_eq_true h; subst this; rfl
 · obtain⟨h1,h2⟩:=h; have:=Nat.eq_of_beq_eq_true h1; have:=Nat.eq_of_beq_eq_true h2; subst_vars; rfl
 · obtain⟨rfl,h⟩:=h; have:=Nat.eq_of_beq_eq_true h; subst this; rfl
 · obtain⟨rfl,h⟩:=h; have:=Nat.eq_of_beq_eq_true h; subst this; rfl
 · have:=Nat.eq_of_beq_eq_true h; subst this; rfl
 · rfl
 · rfl
 · rfl
 · rfl
 · obtain⟨h1,h2⟩:=h; have:=Nat.eq_of_beq_eq_true h1; have:=Nat.eq_of_beq_eq_true h2; subst_vars; rfl
 · obtain⟨h1,h2,h3,h4⟩:=h; have:=Nat.eq_of_beq_eq_true h1; have:=Nat.eq_of_beq_eq_true h3; have:=Nat.eq_of_beq_eq_true h4; subst_vars; simp only [SC.den]; rw [LE.bj h2 ρ]
 · obtain⟨h1,h2⟩:=h; have:=Nat.eq_of_beq_eq_true h1; have:=Nat.eq_of_beq_eq_true h2; subst_vars; rfl
 · have:=Nat.eq_of_beq_eq_true h; subst this; rfl
 · have:=Nat.eq_of_beq_eq_true h; subst this; rfl
 · obtain⟨h1,h2⟩:=h; have:=Nat.eq_of_beq_eq_true h1; have:=Nat.eq_of_beq_eq_true h2; subst_vars; rfl
def aE (ρ:bc) (cs:List SC):List AV:=cs.map (SC.den ρ)
def BV (n:Nat) (cs:List SC):Bool:=cs.all (SC.lt n)
theorem mi {k:Nat} {ρ ρ':bc} (h:de k ρ ρ') {cs:List SC} (hc:BV k cs=true):aE ρ' cs=aE ρ cs:=List.map_congr_left fun c hm=>SC.bP h (List.all_eq_true.1 hc c hm)
def s4:List SC->List SC->Bool
 | [],[]=>true
 | x::xs,y::ys=>x.same y&&s4 xs ys
 | _,_=>false
theorem mj:∀{xs ys:List SC},s4 xs ys=true->∀ρ,aE ρ xs=aE ρ ys
 | [],[],_,ρ=>rfl
 | x::xs,y::ys,h,ρ=>by
   simp only [s4,Bool.and_eq_true] at h
   show x.den ρ::aE ρ xs=y.den ρ::aE ρ ys
   rw [SC.bj h.1 ρ,mj h.2 ρ]
 | [],_::_,h,_=>by cases h
 | _::_,[],h,_=>by cases h
inductive SV where
 | v (ag:Bool) (cs:List SC)
 | cu (l:List (Bool × List SC))
 | undef
 | AD (f:Nat) (cs:List SC)
def dH (ρ:bc) (p:Bool × List SC):AV:=match p.1 with | true=>.agg (aE ρ p.2) | false=>(aE ρ p.2).headD .aB
def SV.den (ρ:bc):SV->AV
 | .v ag cs=>dH ρ (ag,cs)
 | .cu l=>.cu (l.map (dH ρ))
 | .undef=>aD
 | .AD f cs=>.func (.func f) [] (aE ρ cs)
def SV.lt (n:Nat):SV->Bool
 | .v _ cs=>BV n cs
 | .cu l=>l.all fun p=>BV n p.2
 | .undef=>true
 | .AD _ cs=>BV n cs
theorem yY {k:Nat} {ρ ρ':bc} (h:de k ρ ρ') {p:Bool × List SC} (hc:BV k p.2=true):dH ρ' p=dH ρ p:=by unfold dH; rw [mi h hc]
theorem SV.bP {k:Nat} {ρ ρ':bc} (h:de k ρ ρ') {v:SV} (hv:v.lt k=true):v.den ρ'=v.den ρ:=by
 cases v with
 | v ag cs=>exact yY h hv
 | cu l=>simp only [SV.den]; congr 1; exact List.map_congr_left fun p hp=>yY h (List.all_eq_true.1 hv p hp)
 | undef=>rfl
 | AD f cs=>simp only [SV.den]; rw [mi h hv]
def BW:List (Bool × List SC)->List (Bool × List SC)->Bool
 | [],[]=>true
 | x::xs,y::ys=>(x.1==y.1)&&(s4 x.2 y.2&&BW xs ys)
 | _,_=>false
theorem yZ:∀{xs ys:List (Bool × List SC)},BW xs ys=true->∀ρ,xs.map (dH ρ)=ys.map (dH ρ)
 | [],[],_,ρ=>rfl
 | x::xs,y::ys,h,ρ=>by
   simp only [BW,Bool.and_eq_true,beq_iff_eq] at h
   obtain⟨h1,h2,h3⟩:=h
   rw [List.map_cons,List.map_cons,yZ h3 ρ]
   congr 1
   unfold dH
   rw [h1,mj h2 ρ]
 | [],_::_,h,_=>by cases h
 | _::_,[],h,_=>by cases h
def SV.same:SV->SV->Bool
 | .v a cs,.v a' cs'=>(a==a')&&s4 cs cs'
 | .cu l,.cu l'=>BW l l'
 | .undef,.undef=>true
 | .AD f cs,.AD f' cs'=>Nat.beq f f'&&s4 cs cs'
 | _,_=>false
theorem SV.bj {x y:SV} (h:x.same y=true) (ρ:bc):x.den ρ=y.den ρ:=by
 cases x<;>cases y<;>simp only [SV.same,Bool.false_eq_true,Bool.and_eq_true,beq_iff_eq] at h
 · obtain⟨rfl,h⟩:=h; simp only [SV.den,dH]; rw [mj h ρ]
 · simp only [SV.den]; rw [yZ h ρ]
 · rfl
 · obtain⟨h1,h⟩:=h; have:=Nat.eq_of_beq_eq_true h1; subst this; simp only [SV.den]; rw [mj h ρ]
def ig (ρ:bc):Nat->Nat | 0=>0 | k+1=>(ρ k).nn
def bR (n g:Nat):Bool:=Nat.ble g n
theorem bV {k:Nat} {ρ ρ':bc} (h:de k ρ ρ') {g:Nat} (hg:bR k g=true):ig ρ' g=ig ρ g:=by
 cases g with
 | zero=>rfl
 | succ g=>have:=aL hg; simp only [ig]; rw [h g (by omega)]
inductive dw where
 | sl (x c g:Nat) | pt (x c g:Nat) | mp (x c g:Nat) | el (x c:Nat) (e:LE) (off:Nat) (v:SC)
def dw.den (ρ:bc):dw->TF
 | .sl x c g=>.sl (ρ x).vv c (ig ρ g) (ρ x).ns
 | .pt x c g=>.pt (ρ x).vv c (ig ρ g)
 | .mp x c g=>.mp (ρ x).vv c (ig ρ g)
 | .el x c e off v=>.el (ρ x).vv c (e.ev ρ).toNat off (v.den ρ)
def dw.lt (n:Nat):dw->Bool
 | .sl x _ g=>Nat.blt x n&&bR n g
 | .pt x _ g=>Nat.blt x n&&bR n g
 | .mp x _ g=>Nat.blt x n&&bR n g
 | .el x _ e _ v=>Nat.blt x n&&(e.lt n&&v.lt n)
theorem dw.bP {k:Nat} {ρ ρ':bc} (h:de k ρ ρ') {f:dw} (hf:f.lt k=true):f.den ρ'=f.den ρ:=by
 cases f with
 | el x c e off v=>simp only [dw.lt,Bool.and_eq_true] at hf; simp only [dw.den]; rw [h _ (au hf.1),LE.bP h hf.2.1,SC.bP h hf.2.2]
 | _=>simp only [dw.lt,Bool.and_eq_true] at hf; simp only [dw.den]; rw [h _ (au hf.1),bV h hf.2]
def dw.beq:dw->dw->Bool
 | .sl x c g,.sl x' c' g'=>Nat.beq x x'&&(Nat.beq c c'&&Nat.beq g g')
 | .pt x c g,.pt x' c' g'=>Nat.beq x x'&&(Nat.beq c c'&&Nat.beq g g')
 | .mp x c g,.mp x' c' g'=>Nat.beq x x'&&(Nat.beq c c'&&Nat.beq g g')
 | _,_=>false
theorem dw.ai {x y:dw} (h:x.beq y=true):x=y:=by
 cases x<;>cases y<;>simp only [dw.beq,Bool.false_eq_true,Bool.and_eq_true] at h
 all_goals (obtain⟨h1,h2,h3⟩:=h; have:=Nat.eq_of_beq_eq_true h1; have:=Nat.eq_of_beq_eq_true h2; have:=Nat.eq_of_beq_eq_true h3; subst_vars; rfl)
inductive SO where
 | loc (b:Nat) (el:TypeId) (cs:List SC)
 | iE (x c:Nat)
 | em (b:Nat) (pk:KK)
 | ul (x c g:Nat)
 | am (b g k:Nat)
 | im (b:Nat) (e:LE)
 | bl (x m:Nat) (el:TypeId)
 | km (b c g:Nat) (n:LE)
 | it (b:Nat) (m:SC) (n r:LE) (st ty:Bool)
def SO.den (ρ:bc):SO->Own
 | .loc b el cs=>.loc (ρ b).nn el (aE ρ cs)
 | .iE x c=>.iE (ρ x).vv c (ρ x).ns
 | .em b pk=>.map (ρ b).nn pk []
 | .ul x c g=>.ul (ρ x).vv c (ig ρ g) (ρ x).ns.length
 | .am b g k=>.am (ρ b).nn (ig ρ g) k
 | .im b e=>.im (ρ b).nn (e.ev ρ).toNat
 | .bl x m el=>.bl (ρ x).vv el (ρ m).ns
 | .km b c g n=>.km (ρ b).nn c (ig ρ g) (n.ev ρ).toNat
 | .it b m n r st ty=>.it (ρ b).nn (m.den ρ) (n.ev ρ).toNat (r.ev ρ).toNat st ty
def SO.lt (n:Nat):SO->Bool
 | .loc b _ cs=>Nat.blt b n&&BV n cs
 | .iE x _=>Nat.blt x n
 | .em b _=>Nat.blt b n
 | .ul x _ g=>Nat.blt x n&&bR n g
 | .am b g _=>Nat.blt b n&&bR n g
 | .im b e=>Nat.blt b n&&e.lt n
 | .bl x m _=>Nat.blt x n&&Nat.blt m n
 | .km b _ g k=>Nat.blt b n&&(bR n g&&k.lt n)
 | .it b m k r _ _=>Nat.blt b n&&(m.lt n&&(k.lt n&&r.lt n))
theorem SO.bP {k:Nat} {ρ ρ':bc} (h:de k ρ ρ') {o:SO} (ho:o.lt k=true):o.den ρ'=o.den ρ:=by
 cases o with
 | loc b el cs=>simp only [SO.lt,Bool.and_eq_true] at ho; simp only [SO.den]; rw [h _ (au ho.1),mi h ho.2]
 | iE x c=>simp only [SO.den]; rw [h _ (au ho)]
 | em b pk=>simp only [SO.den]; rw [h _ (au ho)]
 | ul x c g=>simp only [SO.lt,Bool.and_eq_true] at ho; simp only [SO.den]; rw [h _ (au ho.1),bV h ho.2]
 | am b g k=>simp only [SO.lt,Bool.and_eq_true] at ho; simp only [SO.den]; rw [h _ (au ho.1),bV h ho.2]
 | im b e=>simp only [SO.lt,Bool.and_eq_true] at ho; simp only [SO.den]; rw [h _ (au ho.1),LE.bP h ho.2]
 | bl x m el=>simp only [SO.lt,Bool.and_eq_true] at ho; simp only [SO.den]; rw [h _ (au ho.1),h _ (au ho.2)]
 | km b c g n=>simp only [SO.lt,Bool.and_eq_true] at ho; simp only [SO.den]; rw [h _ (au ho.1),bV h ho.2.1,LE.bP h ho.2.2]
 | it b m n r st ty=>simp only [SO.lt,Bool.and_eq_true] at ho; simp only [SO.den]; rw [h _ (au ho.1),SC.bP h ho.2.1,LE.bP h ho.2.2.1,LE.bP h ho.2.2.2]
def SO.QW:SO->Bool
 | .it _ _ _ _ _ ty=>!ty
 | _=>true
theorem SO.HQ {o:SO} (h:o.QW=true) (ρ:bc):(o.den ρ).Rx=false:=by
 cases o with
 | it b m n r st ty=>show ty=false; cases ty with
                                    | false=>rfl
                                    | true=>cases h
 | _=>rfl
def KF:KK->KK->Bool
 | .str,.str=>true | .pair,.pair=>true | .int,.int=>true | .iD,.iD=>true | .mf,.mf=>true | .u9,.u9=>true
 | _,_=>false
theorem s5 {a b:KK} (h:KF a b=true):a=b:=by cases a<;>cases b<;>first | rfl | cases h
def SO.same:SO->SO->Bool
 | .loc b el cs,.loc b' el' cs'=>Nat.beq b b'&&(Nat.beq el el'&&s4 cs cs')
 | .iE x c,.iE x' c'=>Nat.beq x x'&&Nat.beq c c'
 | .em b pk,.em b' pk'=>Nat.beq b b'&&KF pk pk'
 | .ul x c g,.ul x' c' g'=>Nat.beq x x'&&(Nat.beq c c'&&Nat.beq g g')
 | .am x c g,.am x' c' g'=>Nat.beq x x'&&(Nat.beq c c'&&Nat.beq g g')
 | .im b e,.im b' e'=>Nat.beq b b'&&e.same e'
 | .bl x c g,.bl x' c' g'=>Nat.beq x x'&&(Nat.beq c c'&&Nat.beq g g')
 | .km x c g n,.km x' c' g' n'=>Nat.beq x x'&&(Nat.beq c c'&&(Nat.beq g g'&&n.same n'))
 | .it b m n r st ty,.it b' m' n' r' st' ty'=>Nat.beq b b'&&(m.same m'&&(n.same n'&&(r.same r'&&(st==st'&&ty==ty'))))
 | _,_=>false
theorem SO.bj {x y:SO} (h:x.same y=true) (ρ:bc):x.den ρ=y.den ρ:=by
 cases x<;>cases y<;>simp only [SO.same,Bool.false_eq_true,Bool.and_eq_true] at h
 · obtain⟨h1,h2,h3⟩:=h; have:=Nat.eq_of_beq_eq_true h1; have:=Nat.eq_of_beq_eq_true h2; subst_vars; simp only [SO.den]; rw [mj h3 ρ]
 · obtain⟨h1,h2⟩:=h; have:=Nat.eq_of_beq_eq_true h1; have:=Nat.eq_of_beq_eq_true h2; subst_vars; rfl
 · obtain⟨h1,h2⟩:=h; have:=Nat.eq_of_beq_eq_true h1; have:=s5 h2; subst_vars; rfl
 · obtain⟨h1,h2,h3⟩:=h; have:=Nat.eq_of_beq_eq_true h1; have:=Nat.eq_of_beq_eq_true h2; have:=Nat.eq_of_beq_eq_true h3; subst_vars; rfl
 · obtain⟨h1,h2,h3⟩:=h; have:=Nat.eq_of_beq_eq_true h1; have:=Nat.eq_of_beq_eq_true h2; have:=Nat.eq_of_beq_eq_true h3; subst_vars; rfl
 · obtain⟨h1,h2⟩:=h; have:=Nat.eq_of_beq_eq_true h1; subst_vars; simp only [SO.den]; rw [LE.bj h2 ρ]
 · obtain⟨h1,h2,h3⟩:=h; have:=Nat.eq_of_beq_eq_true h1; have:=Nat.eq_of_beq_eq_true h2; have:=Nat.eq_of_beq_eq_true h3; subst_vars; rfl
 · obtain⟨h1,h2,h3,h4⟩:=h; have:=Nat.eq_of_beq_eq_true h1; have:=Nat.eq_of_beq_eq_true h2; have:=Nat.eq_of_beq_eq_true h3; subst_vars; simp only [SO.den]; rw [LE.bj h4 ρ]
 · obtain⟨h1,h2,h3,h4,h5,h6⟩:=h; have:=Nat.eq_of_beq_eq_true h1; have:=eq_of_beq h5; have:=eq_of_beq h6; subst_vars; simp only [SO.den]; rw [SC.bj h2 ρ,LE.bj h3 ρ,LE.bj h4 ρ]
structure SS where
 nx:Nat
 L:List (Nat × SV)
 os:List SO
 ty:List dw
 gs:List (Nat × Nat × Bool)
 fs:List LE
 bs:List (Nat × Bool)
 pw:List (Nat × LE × LE)
 ats:List (Nat × SC × LE)
 c9:List (Nat × LE × LE)
 ne:List LE
 fz:List Nat
 sb:List (Nat × Nat)
def SS.den (ρ:bc) (s:SS):St:=⟨s.L.map fun p=>(p.1,p.2.den ρ),s.os.map (SO.den ρ),s.ty.map (dw.den ρ),s.gs.map fun p=>(ig ρ p.1,(ρ p.2.1).gg,p.2.2)⟩
def zH (d:Gd) (v:AV):Option Nat:=match v with | .str l m=>d.at_ l m | _=>none
def OA (ρ:bc) (p:Nat × SC × LE):Prop:=(0<=p.2.2.ev ρ/\zH (ρ p.1).gg (p.2.1.den ρ)=some (p.2.2.ev ρ).toNat)∨(p.2.2.ev ρ<0/\zH (ρ p.1).gg (p.2.1.den ρ)=none)
structure Sat (ρ:bc) (s:SS):Prop where
 fs:∀f∈s.fs,0<=f.ev ρ
 bs:∀p∈s.bs,(ρ p.1).bb=p.2
 pw:∀p∈s.pw,0<=p.2.1.ev ρ/\((((ρ p.1).ns.take (p.2.1.ev ρ).toNat).sum:Nat):Int)+p.2.1.ev ρ=p.2.2.ev ρ
 ats:∀p∈s.ats,OA ρ p
 c9:∀p∈s.c9,0<=p.2.1.ev ρ/\(ρ p.1).gg.fz=true/\(((ρ p.1).gg.fl (p.2.1.ev ρ).toNat:Nat):Int)=p.2.2.ev ρ
 ne:∀e∈s.ne,e.ev ρ≠0
 fz:∀d∈s.fz,(ρ d).gg.fz=true
 sb:∀p∈s.sb,(ρ p.1).gg.sub=ig ρ p.2
def SS.ok (s:SS):Bool :=
 (s.L.all fun p=>p.2.lt s.nx)&&((s.os.all (SO.lt s.nx))&&((s.ty.all (dw.lt s.nx))&&((s.gs.all fun p=>bR s.nx p.1&&Nat.blt p.2.1 s.nx)&&((s.fs.all (LE.lt s.nx))&&((s.bs.all fun p=>Nat.blt p.1 s.nx) &&
 ((s.pw.all fun p=>Nat.blt p.1 s.nx&&(p.2.1.lt s.nx&&p.2.2.lt s.nx))&&((s.ats.all fun p=>Nat.blt p.1 s.nx&&(p.2.1.lt s.nx&&p.2.2.lt s.nx))&&((s.c9.all fun p=>Nat.blt p.1 s.nx&&(p.2.1.lt s.nx&&p.2.2.lt s.nx))&&((s.ne.all (LE.lt s.nx))&&((s.fz.all fun d=>Nat.blt d s.nx)&&(s.sb.all fun p=>Nat.blt p.1 s.nx&&bR s.nx p.2)))))))))))
theorem SS.bP {s:SS} (hs:s.ok=true) {ρ ρ':bc} (h:de s.nx ρ ρ'):s.den ρ'=s.den ρ/\(Sat ρ s->Sat ρ' s):=by
 unfold SS.ok at hs
 simp only [Bool.and_eq_true,List.all_eq_true] at hs
 obtain⟨h1,h2,h3,h4,h5,h6,h7,h8,h9,h10,h11,h12⟩:=hs
 refine⟨?_,fun hsat=>⟨fun f hf=>?_,fun p hp=>?_,fun p hp=>?_,fun p hp=>?_,fun p hp=>?_,fun e he=>?_,fun d hd=>?_,fun p hp=>?_⟩⟩
 · unfold SS.den
   congr 1
   · exact List.map_congr_left fun p hp=>by rw [SV.bP h (h1 p hp)]
   · exact List.map_congr_left fun o ho=>SO.bP h (h2 o ho)
   · exact List.map_congr_left fun f hf=>dw.bP h (h3 f hf)
   · exact List.map_congr_left fun p hp=>by rw [bV h (h4 p hp).1,h _ (au (h4 p hp).2)]
 · rw [LE.bP h (h5 f hf)]; exact hsat.fs f hf
 · rw [h _ (au (h6 p hp))]; exact hsat.bs p hp
 · obtain⟨k1,k2,k3⟩:=h7 p hp
   rw [LE.bP h k2,LE.bP h k3,h _ (au k1)]; exact hsat.pw p hp
 · obtain⟨k1,k2,k3⟩:=h8 p hp
   unfold OA; rw [SC.bP h k2,LE.bP h k3,h _ (au k1)]; exact hsat.ats p hp
 · obtain⟨k1,k2,k3⟩:=h9 p hp
   rw [LE.bP h k2,LE.bP h k3,h _ (au k1)]; exact hsat.c9 p hp
 · rw [LE.bP h (h10 e he)]; exact hsat.ne e he
 · rw [h _ (au (h11 d hd))]; exact hsat.fz d hd
 · rw [h _ (au (h12 p hp).1),bV h (h12 p hp).2]; exact hsat.sb p hp
end Go.Rd
namespace Go.Rt
open Go.aQ Go.RowKit
def wK (ops:Array Oper):Array Oper:=ops.map fun o=>{ o with guard:=none }
theorem jj (ops:Array Oper) (i:Nat):ab (wK ops) i={ ab ops i with guard:=none }:=by
 unfold ab wK
 rw [Array.getD_eq_getD_getElem?,Array.getD_eq_getD_getElem?,Array.getElem?_map]
 cases ops[i]?<;>rfl
theorem gT {ops:Array Oper} {T:Tm} {g dg:Nat} {b:Bool} {a:Act} {ι:En} {nt:Nat} (hdg:(ab ops g).dst=some dg) (ht:bG ι nt T a) (hlk:T.at dg=.bool b):Go.yielded ops a.tmps g=some b:=by
 cases ho:ops[g]? with
 | none =>
   unfold ab at hdg
   rw [Array.getD_eq_getD_getElem?,ho] at hdg
   cases hdg
 | some o =>
   have e:ab ops g=o:=by unfold ab; rw [Array.getD_eq_getD_getElem?,ho]; rfl
   rw [e] at hdg
   have hv:=ht.val dg
   rw [hlk] at hv
   have:a.tmps[dg]?=some (.bool b):=by
    rw [Array.getD_eq_getD_getElem?] at hv
    cases h:a.tmps[dg]? with
    | none=>rw [h] at hv; simp [aj,undef] at hv
    | some x=>rw [h] at hv; simpa [aj] using hv
   unfold Go.yielded
   rw [ho]
   simp [hdg,this]
def KG:BinOp->Int->Int->Bool
 | .lss,a,b=>decide (a<b)
 | .leq,a,b=>decide (a<=b)
 | .gtr,a,b=>decide (a > b)
 | .geq,a,b=>decide (a ≥ b)
 | .eql,a,b=>decide (a=b)
 | .neq,a,b=>decide (a≠b)
 | _,_,_=>false
def lu:BinOp->Bool
 | .lss | .leq | .gtr | .geq | .eql | .neq=>true
 | _=>false
def mX:BinOp->Bool
 | .add | .sub | .mul=>true
 | _=>false
def U2:BinOp->Int->Int->Int
 | .add,a,b=>a+b
 | .sub,a,b=>a-b
 | .mul,a,b=>a*b
 | _,_,_=>0
def mm:AV->Bool
 | .aB=>true
 | .dq=>true
 | .aV=>true
 | _=>false
def XB (v:AV):Prop:=v=.aB∨∃b o l cap,v=.di b o l cap
def U3 (v:AV):Prop:=v=.dq∨∃b o,v=.bW b o
def U4 (v:AV):Prop:=v=.aV∨∃b,v=.dG b
def BX:TypeDesc->AV->AV->Prop
 | .slice _,v,w=>XB v/\w=.aB
 | .pointer _,v,w=>U3 v/\w=.dq
 | .map _ _,v,w=>U4 v/\w=.aV
 | _,_,_=>False
def qe {α:Type} (o:Nat) (l C:List α):List α:=C.take o++l++C.drop (o+l.length)
theorem BZ {α β:Type} (f:α->β) (o:Nat) (l C:List α):(qe o l C).map f=qe o (l.map f) (C.map f):=by simp [qe]
theorem rn {α:Type} {o:Nat} {l C:List α} (h:o+l.length<=C.length):(qe o l C).length=C.length:=by simp only [qe,List.length_append,List.length_take,List.length_drop]; omega
theorem rp {α:Type} {o:Nat} {l C:List α} (h:o+l.length<=C.length) (k:Nat):(qe o l C)[k]?=if o<=k/\k<o+l.length then l[k-o]? else C[k]?:=by
 unfold qe
 by_cases h1:k<o
 · rw [if_neg (by omega),List.append_assoc,List.getElem?_append_left (by rw [List.length_take]; omega),List.getElem?_take_of_lt h1]
 · by_cases h2:k<o+l.length
   · rw [if_pos ⟨by omega,h2⟩,List.append_assoc,List.getElem?_append_right (by rw [List.length_take]; omega),List.getElem?_append_left (by rw [List.length_take]; omega),List.length_take,Nat.min_eq_left (by omega)]
   · rw [if_neg (by omega),List.getElem?_append_right (by rw [List.length_append,List.length_take]; omega),List.getElem?_drop]
     congr 1
     rw [List.length_append,List.length_take]; omega
theorem AE {o:Nat} {l C:List AV} (h:o+l.length<=C.length):ef o l C=qe o l C:=by
 apply List.ext_getElem?
 intro k
 rw [nO _ _ _ h,rp h]
section
variable {P:Program} {n0 nt:Nat} {T T2:Tm} {hp H:Tr AO} {nx X:Pz} {G:GH} {ops:Array Oper} {aG:List Nat} {i m d:Nat} {v u:AV}
theorem ba.at {y:Operand} (h:ba nt T y u) {B:Nat->Prop} {w0:World} {ι:En} {a:Act} {w:World} (hs:du n0 B w0 nt T hp nx G ι a w):a.eval y=aj ι u:=h ι a (hs.1.2 ι (al.refl _ _)).1
theorem AF {g dg:Nat} {b:Bool} (hg:(ab ops i).guard=some (g,b)) (hdg:(ab ops g).dst=some dg) (hlk:T.at dg=.bool b) (h:aZ P (wK ops) n0 nt i T hp nx G v):aZ P ops n0 nt i T hp nx G v:=by
 intro B w0 ι a w hs
 have hy:=gT hdg (hs.1.2 ι (al.refl _ _)).1 hlk
 rcases h B w0 ι a w hs with ⟨h1,h2⟩ | ⟨h1,h2⟩
 · refine .inl ⟨by simp [Region.wanted,hg,hy],?_⟩
   rw [jj] at h2
   exact h2
 · rw [jj] at h1
   simp [Region.wanted] at h1
theorem s6 {g dg:Nat} {b b':Bool} (hg:(ab ops i).guard=some (g,b)) (hdg:(ab ops g).dst=some dg) (hlk:T.at dg=.bool b') (hne:b'≠b):aZ P ops n0 nt i T hp nx G aD:=by
 intro B w0 ι a w hs
 have hy:=gT hdg (hs.1.2 ι (al.refl _ _)).1 hlk
 refine .inr ⟨?_,by simp [cK]⟩
 simp [Region.wanted,hg,hy,hne]
theorem s7 {g dg:Nat} {b:Bool} (hg:(ab ops i).guard=some (g,b)) (hdg:(ab ops g).dst=some dg) (hlk:T.at dg=aD):aZ P ops n0 nt i T hp nx G aD:=by
 intro B w0 ι a w hs
 refine .inr ⟨?_,by simp [cK]⟩
 have hy:Go.yielded ops a.tmps g=none:=by
  have hv:=(hs.1.2 ι (al.refl _ _)).1.val dg
  rw [hlk,cK] at hv
  unfold Go.yielded
  cases ho:ops[g]? with
  | none=>rfl
  | some o =>
    have e:ab ops g=o:=by unfold ab; rw [Array.getD_eq_getD_getElem?,ho]; rfl
    rw [e] at hdg
    cases h:a.tmps[dg]? with
    | none=>simp [hdg,h]
    | some x =>
      rw [Array.getD_eq_getD_getElem?,h] at hv
      have hv:x=undef:=hv
      simp [hdg,h,hv,undef]
 simp [Region.wanted,hg,hy]
theorem AG {R:Tm->Tr AO->Pz->GH->Prop} {g dg:Nat} {b:Bool} (hg:(ab ops i).guard=some (g,b)) (hdg:(ab ops g).dst=some dg) (hlk:T.at dg=.bool b) (h:eZ P n0 nt (wK ops) i T hp nx G R):eZ P n0 nt ops i T hp nx G R:=by
 intro B w0 ι a w hs
 have hy:=gT hdg (hs.1.2 ι (al.refl _ _)).1 hlk
 rcases h B w0 ι a w hs with ⟨h1,h2⟩ | ⟨h1,h2⟩
 · refine .inl ⟨by simp [Region.wanted,hg,hy],?_⟩
   rw [jj] at h2
   exact h2
 · rw [jj] at h1
   simp [Region.wanted] at h1
theorem aZ.RA (hg:(ab ops i).guard=none) {x:Operand} (ho:(ab ops i).op=.move x∨(ab ops i).op=.assign x) (hx:ba nt T x v):aZ P ops n0 nt i T hp nx G v:=by
 refine bQ hg fun B w0 ι a w hs=>?_
 rcases ho with ho | ho<;>(simp only [execOp,ho]; rw [ba.at hx hs]; rfl)
theorem aZ.HR (hg:(ab ops i).guard=none) {x:Operand} {k:Nat} {vs:List AV} (ho:(ab ops i).op=.extract x k) (hx:ba nt T x (.cu vs)) (hv:vs[k]?=some v):aZ P ops n0 nt i T hp nx G v:=by
 refine bQ hg fun B w0 ι a w hs=>?_
 simp only [execOp,ho]
 rw [ba.at hx hs]
 have:(ao ι vs).toArray[k]?=some (aj ι v):=by rw [List.getElem?_toArray,bo,hv]; rfl
 simp [aj,Instr.extract,this]
theorem aZ.HS (hg:(ab ops i).guard=none) {t ft:TypeId} {x:Operand} {f off:Nat} {cs:List AV} (ho:(ab ops i).op=.field t x f) (hf:er P t f=some (off,ft)) (hx:ba nt T x (.agg cs)) (hv:∀ι w,(part ft (ao ι cs).toArray off).run P w=.ok (aj ι v) w):aZ P ops n0 nt i T hp nx G v:=by
 obtain⟨fs,fd,h1,h2,h3,h4⟩:=jt hf
 refine bQ hg fun B w0 ι a w hs=>?_
 simp only [execOp,ho]
 rw [ba.at hx hs]
 simp only [aj,Instr.field,Sem.run_bind,av h1,Result.andThen_ok,h2,Go.asAgg,Sem.run_pure]
 rw [h4,h3,hv]
 rfl
theorem aZ.Ms (hg:(ab ops i).guard=none) {c x y:Operand} {b:Bool} (ho:(ab ops i).op=.pick c x y) (hc:ba nt T c (.bool b)) (hx:b=true->ba nt T x v) (hy:b=false->ba nt T y v):aZ P ops n0 nt i T hp nx G v:=by
 refine bQ hg fun B w0 ι a w hs=>?_
 simp only [execOp,ho]
 rw [ba.at hc hs]
 cases b with
 | true=>rw [ba.at (hx rfl) hs]; simp [aj,asBool]
 | false=>rw [ba.at (hy rfl) hs]; simp [aj,asBool]
theorem aZ.U5 (hg:(ab ops i).guard=none) {op:BinOp} {t yt:TypeId} {x y:Operand} {k:IntKind} {a b:Int} (ho:(ab ops i).op=.binOp op t x y yt) (hr:lu op=true) (hx:ba nt T x (.int k a)) (hy:ba nt T y (.int k b)):aZ P ops n0 nt i T hp nx G (.bool (KG op a b)):=by
 refine bQ hg fun B w0 ι a' w hs=>?_
 simp only [execOp,ho]
 rw [ba.at hx hs,ba.at hy hs]
 cases op<;>first | (simp [lu] at hr; done) | (simp [aj,eqGuard,binOp,Op.intCmp,KG]; try rfl)
theorem aZ.XC (hg:(ab ops i).guard=none) {op:BinOp} {t yt:TypeId} {x y:Operand} {k:IntKind} {a b:Int} (ho:(ab ops i).op=.binOp op t x y yt) (hr:mX op=true) (hx:ba nt T x (.int k a)) (hy:ba nt T y (.int k b)):aZ P ops n0 nt i T hp nx G (.int k (k.wrap (U2 op a b))):=by
 refine bQ hg fun B w0 ι a' w hs=>?_
 simp only [execOp,ho]
 rw [ba.at hx hs,ba.at hy hs]
 cases op<;>first | (simp [mX] at hr; done) | (simp [aj,eqGuard,binOp,Op.intArith,U2]; try rfl)
theorem aZ.OC (hg:(ab ops i).guard=none) {op:BinOp} {t yt:TypeId} {x y:Operand} {k:IntKind} {a b:Int} (ho:(ab ops i).op=.binOp op t x y yt) (hr:op=.and∨op=.or∨op=.xor) (hx:ba nt T x (.int k a)) (hy:ba nt T y (.int k b)):∃r,aZ P ops n0 nt i T hp nx G (.int k r):=by
 have h:∃r,∀ι w,(binOp op t (aj ι (.int k a)) (aj ι (.int k b))).run P w=.ok (aj ι (.int k r)) w:=by
  rcases hr with rfl | rfl | rfl<;>exact⟨_,fun ι w=>by simp [aj,binOp,Op.intBits]; rfl⟩
 obtain⟨r,h⟩:=h
 refine⟨r,bQ hg fun B w0 ι a' w hs=>?_⟩
 simp only [execOp,ho]
 rw [ba.at hx hs,ba.at hy hs]
 have e:(eqGuard op t x y (aj ι (.int k a)) (aj ι (.int k b))).run P w=.ok () w:=by rcases hr with rfl | rfl | rfl<;>simp [eqGuard]
 simp only [Sem.run_bind,e,Result.andThen_ok,h,Sem.run_pure]
theorem aZ.RB (hg:(ab ops i).guard=none) {op:BinOp} {t yt:TypeId} {x y:Operand} {k:IntKind} {a b:Int} (ho:(ab ops i).op=.binOp op t x y yt) (hr:op=.quo∨op=.rem) (hb:b≠0) (hx:ba nt T x (.int k a)) (hy:ba nt T y (.int k b)):∃r,(op=.quo->r=k.wrap (a.tdiv b))/\(op=.rem->r=a.tmod b)/\aZ P ops n0 nt i T hp nx G (.int k r):=by
 have h:∃r,(op=.quo->r=k.wrap (a.tdiv b))/\(op=.rem->r=a.tmod b)/\∀ι w,(binOp op t (aj ι (.int k a)) (aj ι (.int k b))).run P w=.ok (aj ι (.int k r)) w:=by
  rcases hr with rfl | rfl
  · exact⟨_,fun _=>rfl,(fun h=>by cases h),fun ι w=>by simp [aj,binOp,Op.intDiv,hb]⟩
  · exact⟨_,(fun h=>by cases h),fun _=>rfl,fun ι w=>by simp [aj,binOp,Op.intDiv,hb]⟩
 obtain⟨r,h1,h2,h⟩:=h
 refine⟨r,h1,h2,bQ hg fun B w0 ι a' w hs=>?_⟩
 simp only [execOp,ho]
 rw [ba.at hx hs,ba.at hy hs]
 have e:(eqGuard op t x y (aj ι (.int k a)) (aj ι (.int k b))).run P w=.ok () w:=by rcases hr with rfl | rfl<;>simp [eqGuard]
 simp only [Sem.run_bind,e,Result.andThen_ok,h,Sem.run_pure]
theorem aZ.XD (hg:(ab ops i).guard=none) {op:BinOp} {t yt:TypeId} {x y:Operand} {k k':IntKind} {a b:Int} (ho:(ab ops i).op=.binOp op t x y yt) (hr:op=.shl∨op=.shr) (hb:0<=b) (hx:ba nt T x (.int k a)) (hy:ba nt T y (.int k' b)):∃r,aZ P ops n0 nt i T hp nx G (.int k r):=by
 have h:∃r,∀ι w,(binOp op t (aj ι (.int k a)) (aj ι (.int k' b))).run P w=.ok (aj ι (.int k r)) w:=by
  have hb':¬b<0:=by omega
  rcases hr with rfl | rfl<;>exact⟨_,fun ι w=>by simp [aj,binOp,Op.shift,hb']; rfl⟩
 obtain⟨r,h⟩:=h
 refine⟨r,bQ hg fun B w0 ι a' w hs=>?_⟩
 simp only [execOp,ho]
 rw [ba.at hx hs,ba.at hy hs]
 have e:(eqGuard op t x y (aj ι (.int k a)) (aj ι (.int k' b))).run P w=.ok () w:=by rcases hr with rfl | rfl<;>simp [eqGuard]
 simp only [Sem.run_bind,e,Result.andThen_ok,h,Sem.run_pure]
theorem aZ.U6 (hg:(ab ops i).guard=none) {op:BinOp} {t yt:TypeId} {x y:Operand} {l n l' n':Nat} (ho:(ab ops i).op=.binOp op t x y yt) (hr:lu op=true) (hx:ba nt T x (.str l n)) (hy:ba nt T y (.str l' n')):∃b,(op=.eql->b=aO l n l' n')/\(op=.neq->b=!aO l n l' n')/\aZ P ops n0 nt i T hp nx G (.bool b):=by
 have h:∃b,(op=.eql->b=aO l n l' n')/\(op=.neq->b=!aO l n l' n')/\∀ι w,(binOp op t (aj ι (.str l n)) (aj ι (.str l' n'))).run P w=.ok (aj ι (.bool b)) w:=by
  have key:∀ι w,(binOp op t (aj ι (.str l n)) (aj ι (.str l' n'))).run P w=(Op.stringOp op ⟨(bytesOf l n).toArray⟩ ⟨(bytesOf l' n').toArray⟩).run P w:=fun ι w=>by cases op<;>first | (simp [lu] at hr; done) | simp [aj,binOp]
  cases op<;>first | (simp [lu] at hr; done) | skip
  · exact⟨_,fun _=>rfl,(fun h=>by cases h),fun ι w=>by rw [key]; simp [Op.stringOp,toList_mk,dz,aj]⟩
  · exact⟨_,(fun h=>by cases h),fun _=>rfl,fun ι w=>by rw [key]; simp [Op.stringOp,toList_mk,dz,aj]⟩
  all_goals exact⟨_,(fun h=>by cases h),(fun h=>by cases h),fun ι w=>by rw [key]; simp only [Op.stringOp,Sem.run_pure,aj]; rfl⟩
 obtain⟨b,h1,h2,h⟩:=h
 refine⟨b,h1,h2,bQ hg fun B w0 ι a' w hs=>?_⟩
 simp only [execOp,ho]
 rw [ba.at hx hs,ba.at hy hs]
 have e:(eqGuard op t x y (aj ι (.str l n)) (aj ι (.str l' n'))).run P w=.ok () w:=by simp [aj,eqGuard]
 simp only [Sem.run_bind,e,Result.andThen_ok,h,Sem.run_pure]
theorem aZ.U7 (hg:(ab ops i).guard=none) {t:TypeId} {x:Operand} {b:Bool} (ho:(ab ops i).op=.unOp .not t x) (hx:ba nt T x (.bool b)):aZ P ops n0 nt i T hp nx G (.bool (!b)):=by
 refine bQ hg fun B w0 ι a w hs=>?_
 simp only [execOp,ho]
 rw [ba.at hx hs]
 simp [aj,Op.unary]
theorem aZ.Mt (hg:(ab ops i).guard=none) {s t:TypeId} {x:Operand} {ks kt:IntKind} {n:Int} (ho:(ab ops i).op=.convert s t x) (hs:P.underlying s=some (.int ks)) (ht:P.underlying t=some (.int kt)) (hx:ba nt T x (.int ks n)):aZ P ops n0 nt i T hp nx G (.int kt (kt.wrap n)):=by
 refine bQ hg fun B w0 ι a w hsat=>?_
 simp only [execOp,ho]
 rw [ba.at hx hsat]
 simp [aj,convert,av hs,av ht,Conv.intToInt]
theorem AH {P:Program} {t:TypeId} {dd:TypeDesc} {v w:AV} (D:Nat) (hu:P.underlying t=some dd) (hn:BX dd v w) (ι:En) (ww:World):(Op.equalIn (D+1) t (aj ι v) (aj ι w)).run P ww=.ok (mm v) ww:=by
 cases dd with
 | slice e =>
   obtain⟨h1,rfl⟩:=hn
   rcases h1 with rfl | ⟨b,o,l,cap,rfl⟩<;>simp [aj,Op.equalIn,av hu,mm]
 | pointer e =>
   obtain⟨h1,rfl⟩:=hn
   rcases h1 with rfl | ⟨b,o,rfl⟩<;>simp [aj,Op.equalIn,av hu,mm]
 | map k e =>
   obtain⟨h1,rfl⟩:=hn
   rcases h1 with rfl | ⟨b,rfl⟩<;>simp [aj,Op.equalIn,av hu,mm]
 | _=>exact hn.elim
theorem y3 {dd:TypeDesc} {v w:AV} (hn:BX dd v w) (ι:En):(∃b,aj ι w=.slice none 0 0/\aj ι v=b/\∃x l c,b=.slice x l c)∨(aj ι w=.pointer none/\∃x,aj ι v=.pointer x)∨(aj ι w=.map none/\∃x,aj ι v=.map x):=by
 cases dd with
 | slice e =>
   obtain⟨h1,rfl⟩:=hn
   rcases h1 with rfl | ⟨b,o,l,cap,rfl⟩
   · exact .inl ⟨_,by simp [aj],rfl,none,0,0,by simp [aj]⟩
   · exact .inl ⟨_,by simp [aj],rfl,some (oE b o l cap),l,cap,by simp [aj]⟩
 | pointer e =>
   obtain⟨h1,rfl⟩:=hn
   rcases h1 with rfl | ⟨b,o,rfl⟩
   · exact .inr (.inl ⟨by simp [aj],none,by simp [aj]⟩)
   · exact .inr (.inl ⟨by simp [aj],some ⟨b,o,none⟩,by simp [aj]⟩)
 | map k e =>
   obtain⟨h1,rfl⟩:=hn
   rcases h1 with rfl | ⟨b,rfl⟩
   · exact .inr (.inr ⟨by simp [aj],none,by simp [aj]⟩)
   · exact .inr (.inr ⟨by simp [aj],some b,by simp [aj]⟩)
 | _=>exact hn.elim
theorem aZ.Mu (hg:(ab ops i).guard=none) {t yt:TypeId} {x y:Operand} {w:AV} {dd:TypeDesc} {neq:Bool} (ho:(ab ops i).op=.binOp (bif neq then .neq else .eql) t x y yt) (hu:P.underlying t=some dd) (hx:ba nt T x v) (hy:ba nt T y w) (hn:BX dd v w):aZ P ops n0 nt i T hp nx G (.bool (Bool.xor neq (mm v))):=by
 refine bQ hg fun B w0 ι a' ww hs=>?_
 have hr:(Op.equal t (aj ι v) (aj ι w)).run P ww=.ok (mm v) ww:=AH 9999 hu hn ι ww
 simp only [execOp,ho]
 rw [ba.at hx hs,ba.at hy hs]
 cases neq<;>rcases y3 hn ι with ⟨_,e1,rfl,x,l,cp,e2⟩ | ⟨e1,x,e2⟩ | ⟨e1,x,e2⟩<;>(rw [e1,e2] at hr ⊢; simp [eqGuard,binOp,hr,aj])
noncomputable def s8 (place:Nat->Option (Nat × Nat)):List (Nat × AV)->List AV->Option (List AV)
 | [],cs=>some cs
 | p::ps,cs=>match place p.1 with
   | none=>none
   | some (off,size)=>if p.2.cells.length=size/\off+size<=cs.length then s8 place ps (qe off p.2.cells cs) else none
theorem s9 {place:Nat->Option (Nat × Nat)} (ι:En):∀{ps:List (Nat × AV)} {cs cs':List AV},s8 place ps cs=some cs'->Instr.fill place (ao ι cs).toArray (ps.map fun p=>(p.1,aj ι p.2))=some (ao ι cs').toArray
 | [],cs,cs',h=>by cases h; rfl
 | p::ps,cs,cs',h=>by
   unfold s8 at h
   cases hp:place p.1 with
   | none=>rw [hp] at h; cases h
   | some q =>
     obtain⟨off,size⟩:=q
     rw [hp] at h
     simp only at h
     split at h
     · rename_i hc
       obtain⟨h1,h2⟩:=hc
       simp only [List.map_cons,Instr.fill,hp]
       rw [bL]
       have e1:(ao ι p.2.cells).toArray.size=size:=by simp [aq,h1]
       have e2:(ao ι cs).toArray.size=cs.length:=by simp [aq]
       rw [if_neg (by rw [e1,e2]; simp; omega)]
       rw [<-Array.foldl_toList,Array.toList_zipIdx,pS off,Nat.add_zero,oR ι _ _ _ (by rw [h1]; exact h2),AE (by rw [h1]; exact h2)]
       exact s9 ι h
     · cases h
def KH (nt:Nat) (T:Tm):List (Nat × Operand)->List (Nat × AV)->Prop
 | [],[]=>True
 | x::xs,v::vs=>x.1=v.1/\ba nt T x.2 v.2/\KH nt T xs vs
 | _,_=>False
theorem KH.map {ι:En} {a:Act} (ha:bG ι nt T a):∀{xs:List (Nat × Operand)} {vs:List (Nat × AV)},KH nt T xs vs->xs.map (fun p=>(p.1,a.eval p.2))=vs.map fun p=>(p.1,aj ι p.2)
 | [],[],_=>rfl
 | x::xs,v::vs,h=>by
   simp only [List.map_cons]
   rw [h.1,h.2.1 ι a ha,KH.map ha h.2.2]
 | [],_::_,h=>h.elim
 | _::_,[],h=>h.elim
theorem aZ.OD (hg:(ab ops i).guard=none) {t:TypeId} {z:AV} {fs:Array Field} {ps:Array (Nat × Operand)} {places:List (Nat × Nat)} {vs:List (Nat × AV)} {cs:List AV} (ho:(ab ops i).op=.build t ps) (hz:zeroOf P t=some z) (hu:P.underlying t=some (.struct fs))
  (hp':fs.toList.mapM (fun f=>(P.info? f.type).map fun i=>(f.offset,i.size))=some places) (hv:KH nt T ps.toList vs) (h:s8 (fun i=>places[i]?) vs z.cells=some cs):aZ P ops n0 nt i T hp nx G (.agg cs):=by
 obtain⟨j,zv,h1,h2,h3,h4⟩:=cm hz
 refine bQ hg fun B w0 ι a w hs=>?_
 have ha:=(hs.1.2 ι (al.refl _ _)).1
 have hz':zv.cells=(ao ι z.cells).toArray:=by rw [<-dQ 8 zv z h3 ι,bL]
 have hb:P.built t (ps.map fun x=>(x.1,a.eval x.2)).toList=some (ao ι cs).toArray:=by
  unfold Program.built
  simp only [h1,hu,h2,hp']
  rw [eR,hz',KH.map ha hv,<-s9 ι h]
  congr 1
  funext i
  simp
 simp only [execOp,ho,Sem.run_bind]
 rw [show (ps.map fun x=>match x with | (i,x)=>(i,a.eval x))=ps.map fun x=>(x.1,a.eval x.2) from rfl,run_build w t _ _ hb]
 simp [aj]
theorem B0 (hg:(ab ops i).guard=none) {c:Call} {t:TypeId} {ats:List TypeId} {x:Operand} (ho:(ab ops i).op=.call c) (hc:c.callee=.builtin .len) (hats:c.argTypes.toList=t::ats) (hxa:c.args.toList=[x]) (hx:ba nt T x u) {n:Nat} (hl:∀ι w,(Builtin.len_ c.argTypes (ab ops i).type #[aj ι u]).run P w=.ok (.int .i64 (n:Int)) w):aZ P ops n0 nt i T hp nx G (.int .i64 (.ofNat n)):=by
 refine bQ hg fun B w0 ι a w hs=>?_
 have hargs:c.args.map a.eval=#[aj ι u]:=by
  rw [map_mk,hxa]
  simp only [List.map_cons,List.map_nil]
  rw [ba.at hx hs]
 simp only [execOp,ho,resolve,hc,hargs]
 simp only [Sem.run_bind,Sem.run_pure,Result.andThen_ok,invoke,builtin]
 rw [hl]
 simp [aj]
theorem aZ.KI (hg:(ab ops i).guard=none) {c:Call} {t e:TypeId} {ats:List TypeId} {x:Operand} {n:Nat} (ho:(ab ops i).op=.call c) (hc:c.callee=.builtin .len) (hats:c.argTypes.toList=t::ats) (hxa:c.args.toList=[x]) (hu:P.underlying t=some (.slice e)) (hx:ba nt T x u) (hf:(u=.aB/\n=0)∨∃b o cp,u=.di b o n cp):aZ P ops n0 nt i T hp nx G (.int .i64 (.ofNat n)):=by
 have ht:c.argTypes[0]?=some t:=by rw [<-Array.getElem?_toList,hats]; rfl
 refine B0 hg ho hc hats hxa hx fun ι w=>?_
 rcases hf with ⟨rfl,rfl⟩ | ⟨b,o,cp,rfl⟩ <;>
 · simp only [aj,Builtin.len_,ht]
   simp only [List.getElem?_toArray,List.getElem?_cons_zero,Sem.run_bind,av hu,Result.andThen_ok]
   simp [goInt]
theorem aZ.HU (hg:(ab ops i).guard=none) {c:Call} {t:TypeId} {ats:List TypeId} {x:Operand} {l n:Nat} (ho:(ab ops i).op=.call c) (hc:c.callee=.builtin .len) (hats:c.argTypes.toList=t::ats) (hxa:c.args.toList=[x]) (hu:P.underlying t=some .string) (hx:ba nt T x (.str l n)):aZ P ops n0 nt i T hp nx G (.int .i64 (.ofNat l)):=by
 have ht:c.argTypes[0]?=some t:=by rw [<-Array.getElem?_toList,hats]; rfl
 refine B0 hg ho hc hats hxa hx fun ι w=>?_
 simp only [aj,Builtin.len_,ht]
 simp only [List.getElem?_toArray,List.getElem?_cons_zero,Sem.run_bind,av hu,Result.andThen_ok]
 simp [goInt,ByteArray.size,aA]
end
end Go.Rt
namespace Go.Rd
open Go.aQ Go.RowKit Go.Rt
inductive R where | ok | bad (n:Nat) (s:SS) | both (a b:Unit->R)
def R.and (a b:R):R:=.both (fun _=>a) (fun _=>b)
def R.Ok:R->Prop
 | .ok=>True
 | .bad _ _=>False
 | .both a b=>(a ()).Ok/\(b ()).Ok
theorem R.fV {a b:R} (h:(a.and b).Ok):a.Ok/\b.Ok:=h
def R.okB:R->Bool
 | .ok=>true
 | .bad _ _=>false
 | .both a b=>bif (a ()).okB then (b ()).okB else false
theorem R.dt:∀{r:R},r.okB=true->r.Ok
 | .ok,_=>trivial
 | .bad _ _,h=>by cases h
 | .both a b,h=>by
   have h:(bif (a ()).okB then (b ()).okB else false)=true:=h
   cases ha:(a ()).okB with
   | false=>rw [ha] at h; cases h
   | true=>rw [ha] at h; exact⟨dt ha,dt h⟩
structure Cf where
 P:Program
 Φ:Forms
 nt:Nat
 keys:List (TypeId × KK)
structure Ok (c:Cx) (T:Tm) (G:GH) (Γ:c8) (ρ:bc) (s:SS):Prop where
 sat:Sat ρ s
 q:Q c T G Γ (s.den ρ)
def fa (c:Cx) (T:Tm) (G:GH) (Γ:c8) (s:SS) (ρ:bc) (H:bc->SS->Prop):Prop:=∃ρ' s',de s.nx ρ ρ'/\s.nx<=s'.nx/\Ok c T G Γ ρ' s'/\H ρ' s'
section
variable {c:Cx} {T:Tm} {G:GH} {Γ:c8} {ρ ρ':bc} {s s':SS}
theorem fa.here {H:bc->SS->Prop} (h:Ok c T G Γ ρ s) (hh:H ρ s):fa c T G Γ s ρ H:=⟨ρ,s,de.refl _ _,Nat.le_refl _,h,hh⟩
theorem fa.mk {H:bc->SS->Prop} (h1:de s.nx ρ ρ') (h2:s.nx<=s'.nx) (h:Ok c T G Γ ρ' s') (hh:H ρ' s'):fa c T G Γ s ρ H:=⟨ρ',s',h1,h2,h,hh⟩
theorem fa.bind {H H':bc->SS->Prop} (h:fa c T G Γ s ρ H) (hh:∀ρ' s',de s.nx ρ ρ'->s.nx<=s'.nx->Ok c T G Γ ρ' s'->H ρ' s'->fa c T G Γ s' ρ' H'):fa c T G Γ s ρ H':=by
 obtain⟨ρ1,s1,a1,n1,o1,h1⟩:=h
 obtain⟨ρ2,s2,a2,n2,o2,h2⟩:=hh ρ1 s1 a1 n1 o1 h1
 exact⟨ρ2,s2,a1.trans a2 n1,by omega,o2,h2⟩
theorem fa.mono {H H':bc->SS->Prop} (h:fa c T G Γ s ρ H) (hh:∀ρ' s',de s.nx ρ ρ'->s.nx<=s'.nx->Ok c T G Γ ρ' s'->H ρ' s'->H' ρ' s'):fa c T G Γ s ρ H':=by
 obtain⟨ρ1,s1,a1,n1,o1,h1⟩:=h
 exact⟨ρ1,s1,a1,n1,o1,hh _ _ a1 n1 o1 h1⟩
def xr:List (Nat × SV)->Nat->Option SV
 | [],_=>none
 | p::l,k=>bif Nat.beq p.1 k then some p.2 else xr l k
theorem fM:∀{L:List (Nat × SV)} {k:Nat} {v:SV},xr L k=some v->lk (L.map fun p=>(p.1,p.2.den ρ)) k=some (v.den ρ)
 | [],k,v,h=>by cases h
 | p::l,k,v,h=>by
   have h:(bif Nat.beq p.1 k then some p.2 else xr l k)=some v:=h
   show (bif Nat.beq p.1 k then some (p.2.den ρ) else lk (l.map fun p=>(p.1,p.2.den ρ)) k)=_
   cases hb:Nat.beq p.1 k with
   | true=>rw [hb] at h; cases h; rfl
   | false=>rw [hb] at h; exact fM h
def Mv:AV->Option SC
 | .bool b=>some (.bool (.k b))
 | .int k n=>some (.int k (.k n))
 | .str l m=>some (.lD l m)
 | .float k b=>some (.wI k b)
 | .dq=>some .dq | .aB=>some .aB | .aV=>some .aV | .cg=>some .cg
 | .func (.func f) [] []=>some (.fn f)
 | _=>none
theorem HV {a:AV} {x:SC} (h:Mv a=some x) (ρ:bc):x.den ρ=a:=by
 unfold Mv at h
 split at h<;>first | (cases h; done) | (cases h; simp [SC.den,BE.ev,LE.bp])
def Mw:List AV->Option (List SC)
 | []=>some []
 | a::l=>match Mv a,Mw l with | some x,some xs=>some (x::xs) | _,_=>none
theorem HW (ρ:bc):∀{l:List AV} {xs:List SC},Mw l=some xs->aE ρ xs=l
 | [],xs,h=>by cases h; rfl
 | a::l,xs,h=>by
   unfold Mw at h
   split at h
   · rename_i x xs' h1 h2
     cases h
     show x.den ρ::aE ρ xs'=_
     rw [HV h1 ρ,HW ρ h2]
   · cases h
def vd (a:AV):Option SV:=match a with
 | .agg l=>(Mw l).map (.v true)
 | .cu []=>some .undef
 | a=>(Mv a).map fun x=>.v false [x]
theorem mn {a:AV} {v:SV} (h:vd a=some v) (ρ:bc):v.den ρ=a:=by
 unfold vd at h
 split at h
 · rename_i l
   cases hl:Mw l with
   | none=>rw [hl] at h; cases h
   | some xs =>
     rw [hl] at h; cases h
     show AV.agg (aE ρ xs)=_
     rw [HW ρ hl]
 · cases h; rfl
 · rename_i h1 h2
   cases hl:Mv a with
   | none=>rw [hl] at h; cases h
   | some x=>rw [hl] at h; cases h; exact HV hl ρ
def KJ (s:SS) (x:Operand):Option SV:=match x with
 | .tmp t=>xr s.L t
 | .const v=>(ic 8 v).bind vd
 | .func f=>some (.v false [.fn f])
 | .global _=>none
theorem tb {x:Operand} {v:SV} (h:KJ s x=some v) (hq:Q c T G Γ (s.den ρ)):ba c.nt T x (v.den ρ):=by
 cases x with
 | tmp t=>exact Oq (hq.at_ _ _ (fM h))
 | const cv =>
   have h:(ic 8 cv).bind vd=some v:=h
   cases ha:ic 8 cv with
   | none=>rw [ha] at h; cases h
   | some a =>
     rw [ha] at h
     have h:=mn (v:=v) h ρ
     rw [h]
     exact fun ι a' _=>(dQ 8 cv a ha ι).symm
 | func f =>
   cases h
   exact fun ι a' _=>by simp [SV.den,dH,aE,SC.den,aj,ao,lh,Act.eval]
 | global g=>cases h
def bq (s:SS) (e:LE):Bool:=bif pv 3 s.nx s.fs e then true else bif pv 4 s.nx s.fs e then true else bif pv 5 s.nx s.fs e then true else pv 10 s.nx s.fs e
def fb (s:SS) (e:LE):Bool:=pv 4 s.nx s.fs e
theorem B1 {s:SS} {ρ:bc} {e:LE} (hs:∀f∈s.fs,0<=f.ev ρ) (h:bq s e=true):0<=e.ev ρ:=by
 unfold bq at h
 cases h1:pv 3 s.nx s.fs e with
 | true=>exact yX hs h1
 | false=>cases h2:pv 4 s.nx s.fs e with
   | true=>exact yX hs h2
   | false=>cases h3:pv 5 s.nx s.fs e with
     | true=>exact yX hs h3
     | false=>rw [h1,h2,h3] at h; exact yX hs h
theorem ax {e:LE} (h:bq s e=true) (hs:Sat ρ s):0<=e.ev ρ:=B1 hs.fs h
theorem kV {e:LE} (h:fb s e=true) (hs:Sat ρ s):0<=e.ev ρ:=yX hs.fs h
def Mx:List (Nat × Bool)->Nat->Option Bool
 | [],_=>none
 | p::l,k=>bif Nat.beq p.1 k then some p.2 else Mx l k
theorem wL:∀{l:List (Nat × Bool)} {k:Nat} {b:Bool},Mx l k=some b->(k,b)∈l
 | [],k,b,h=>by cases h
 | p::l,k,b,h=>by
   have h:(bif Nat.beq p.1 k then some p.2 else Mx l k)=some b:=h
   cases hb:Nat.beq p.1 k with
   | true=>rw [hb] at h; cases h; have:=Nat.eq_of_beq_eq_true hb; subst this; exact List.mem_cons_self ..
   | false=>rw [hb] at h; exact List.mem_cons_of_mem _ (wL h)
def My (s:SS) (e:LE):Bool:=s.ne.any fun x=>x.same e||x.same ((LE.k 0).sub e)
theorem HX {e:LE} (h:My s e=true) (hs:Sat ρ s):e.ev ρ≠0:=by
 obtain⟨x,h1,h2⟩:=List.any_eq_true.1 h
 have:=hs.ne x h1
 rw [Bool.or_eq_true] at h2
 rcases h2 with h2 | h2
 · rw [<-LE.bj h2 ρ]; exact this
 · rw [LE.bj h2 ρ,LE.aw,LE.bp] at this; omega
def D4 (s:SS) (e:LE):SS:=⟨s.nx,s.L,s.os,s.ty,s.gs,s.fs,s.bs,s.pw,s.ats,s.c9,e::s.ne,s.fz,s.sb⟩
theorem Ok.D4 {e:LE} (h:Ok c T G Γ ρ s) (he:e.ev ρ≠0):Ok c T G Γ ρ (D4 s e):=⟨⟨h.sat.fs,h.sat.bs,h.sat.pw,h.sat.ats,h.sat.c9,fun f hf=>by
 rcases List.mem_cons.1 hf with rfl | hf
 · exact he
 · exact h.sat.ne f hf,h.sat.fz,h.sat.sb⟩,h.q⟩
def kb (s:SS):BE->Option Bool
 | .k b=>some b
 | .v x=>Mx s.bs x
 | .nv x=>(Mx s.bs x).map (!·)
 | .ge e=>bif fb s e then some true else bif fb s ((LE.k (-1)).sub e) then some false else none
 | .eq e=>bif fb s e&&fb s ((LE.k 0).sub e) then some true else bif My s e||(fb s (e.aW (-1))||fb s ((LE.k (-1)).sub e)) then some false else none
 | .ne e=>bif fb s e&&fb s ((LE.k 0).sub e) then some false else bif My s e||(fb s (e.aW (-1))||fb s ((LE.k (-1)).sub e)) then some true else none
theorem Mz {e:LE} {r:Bool} (h:(bif fb s e&&fb s ((LE.k 0).sub e) then some true else bif My s e||(fb s (e.aW (-1))||fb s ((LE.k (-1)).sub e)) then some false else none)=some r) (hs:Sat ρ s):decide (e.ev ρ=0)=r:=by
 cases h1:(fb s e&&fb s ((LE.k 0).sub e)) with
 | true =>
   rw [h1] at h; cases h
   rw [Bool.and_eq_true] at h1
   have a:=kV h1.1 hs
   have b:=kV h1.2 hs
   rw [LE.aw,LE.bp] at b
   exact decide_eq_true (by omega)
 | false =>
   rw [h1] at h
   cases h2:(My s e||(fb s (e.aW (-1))||fb s ((LE.k (-1)).sub e))) with
   | true =>
     rw [h2] at h; cases h
     rw [Bool.or_eq_true,Bool.or_eq_true] at h2
     rcases h2 with h2 | h2 | h2
     · exact decide_eq_false (HX h2 hs)
     · have b:=kV h2 hs; rw [LE.aJ] at b; exact decide_eq_false (by omega)
     · have b:=kV h2 hs; rw [LE.aw,LE.bp] at b; exact decide_eq_false (by omega)
   | false=>rw [h2] at h; cases h
theorem MA {b:BE} {r:Bool} (h:kb s b=some r) (hs:Sat ρ s):b.ev ρ=r:=by
 cases b with
 | k b=>cases h; rfl
 | v x=>exact hs.bs _ (wL h)
 | nv x =>
   have h:(Mx s.bs x).map (!·)=some r:=h
   cases hl:Mx s.bs x with
   | none=>rw [hl] at h; cases h
   | some q=>rw [hl] at h; cases h; show (!(ρ x).bb)=_; rw [hs.bs _ (wL hl)]
 | ge e =>
   have h:(bif fb s e then some true else bif fb s ((LE.k (-1)).sub e) then some false else none)=some r:=h
   cases h1:fb s e with
   | true=>rw [h1] at h; cases h; exact decide_eq_true (kV h1 hs)
   | false =>
     rw [h1] at h
     cases h2:fb s ((LE.k (-1)).sub e) with
     | true=>rw [h2] at h; cases h; have:=kV h2 hs; rw [LE.aw,LE.bp] at this; exact decide_eq_false (by omega)
     | false=>rw [h2] at h; cases h
 | eq e=>exact Mz h hs
 | ne e =>
   have h:(bif fb s e&&fb s ((LE.k 0).sub e) then some false else bif My s e||(fb s (e.aW (-1))||fb s ((LE.k (-1)).sub e)) then some true else none)=some r:=h
   have:=Mz (s:=s) (e:=e) (r:=!r) (ρ:=ρ) (by
    cases h1:(fb s e&&fb s ((LE.k 0).sub e)) with
    | true=>rw [h1] at h; cases h; rfl
    | false =>
      rw [h1] at h
      cases h2:(My s e||(fb s (e.aW (-1))||fb s ((LE.k (-1)).sub e))) with
      | true=>rw [h2] at h; cases h; rfl
      | false=>rw [h2] at h; cases h) hs
   show (!decide (e.ev ρ=0))=r
   rw [this,Bool.not_not]
def aP (s:SS) (e:LE):SS:=⟨s.nx,s.L,s.os,s.ty,s.gs,e::s.fs,s.bs,s.pw,s.ats,s.c9,s.ne,s.fz,s.sb⟩
theorem Ok.aP {e:LE} (h:Ok c T G Γ ρ s) (he:0<=e.ev ρ):Ok c T G Γ ρ (aP s e):=⟨⟨fun f hf=>by
 rcases List.mem_cons.1 hf with rfl | hf
 · exact he
 · exact h.sat.fs f hf,h.sat.bs,h.sat.pw,h.sat.ats,h.sat.c9,h.sat.ne,h.sat.fz,h.sat.sb⟩,h.q⟩
def D5 (s:SS) (x:Nat) (b:Bool):SS:=⟨s.nx,s.L,s.os,s.ty,s.gs,s.fs,(x,b)::s.bs,s.pw,s.ats,s.c9,s.ne,s.fz,s.sb⟩
theorem Ok.D5 {x:Nat} {b:Bool} (h:Ok c T G Γ ρ s) (he:(ρ x).bb=b):Ok c T G Γ ρ (D5 s x b):=⟨⟨h.sat.fs,fun p hp=>by
 rcases List.mem_cons.1 hp with rfl | hp
 · exact he
 · exact h.sat.bs p hp,h.sat.pw,h.sat.ats,h.sat.c9,h.sat.ne,h.sat.fz,h.sat.sb⟩,h.q⟩
def nE (s:SS) (e:LE):SS:=bif fb s e then aP (D4 s e) (e.aW (-1)) else D4 s e
theorem Ok.nE {e:LE} (h:Ok c T G Γ ρ s) (he:e.ev ρ≠0):Ok c T G Γ ρ (nE s e):=by
 unfold Rd.nE
 cases hb:fb s e with
 | false=>exact h.D4 he
 | true =>
   have:=kV hb h.sat
   exact (h.D4 he).aP (by rw [LE.aJ]; omega)
theorem HY (s:SS) (e:LE):(nE s e).nx=s.nx/\∀ρ,(nE s e).den ρ=s.den ρ:=by
 unfold Rd.nE
 cases fb s e<;>exact⟨rfl,fun _=>rfl⟩
def MB (s:SS) (b:BE) (r:Bool):SS:=match b,r with
 | .v x,r=>D5 s x r
 | .nv x,r=>D5 s x (!r)
 | .ge e,true=>aP s e
 | .ge e,false=>aP s ((LE.k (-1)).sub e)
 | .eq e,true=>aP (aP s e) ((LE.k 0).sub e)
 | .ne e,false=>aP (aP s e) ((LE.k 0).sub e)
 | .eq e,false=>nE s e
 | .ne e,true=>nE s e
 | _,_=>s
theorem Ok.MB {b:BE} {r:Bool} (h:Ok c T G Γ ρ s) (he:b.ev ρ=r):Ok c T G Γ ρ (MB s b r):=by
 have N2:∀e:LE,e.ev ρ=0->Ok c T G Γ ρ (Rd.aP (Rd.aP s e) ((LE.k 0).sub e)):=fun e h0=>(h.aP (by omega)).aP (by rw [LE.aw,LE.bp]; omega)
 cases b with
 | k b=>cases r<;>exact h
 | v x=>exact h.D5 he
 | nv x=>exact h.D5 (by rw [<-he]; simp [BE.ev])
 | ge e=>cases r with
   | true=>exact h.aP (of_decide_eq_true he)
   | false=>exact h.aP (by have:=of_decide_eq_false he; rw [LE.aw,LE.bp]; omega)
 | eq e=>cases r with
   | true=>exact N2 e (of_decide_eq_true he)
   | false=>exact h.nE (of_decide_eq_false he)
 | ne e=>cases r with
   | true=>exact h.nE (by have he:(!decide (e.ev ρ=0))=true:=he; simpa using he)
   | false =>
     have he:(!decide (e.ev ρ=0))=false:=he
     exact N2 e (by simpa using he)
theorem wM (s:SS) (b:BE) (r:Bool):(MB s b r).nx=s.nx/\∀ρ,(MB s b r).den ρ=s.den ρ:=by
 cases b<;>cases r<;>first | exact⟨rfl,fun _=>rfl⟩ | exact HY _ _
def split (s:SS) (b:BE) (Kt Kf:SS->R):R:=match kb s b with
 | some true=>Kt s
 | some false=>Kf s
 | none=>(Kt (MB s b true)).and (Kf (MB s b false))
theorem pr {b:BE} {Kt Kf:SS->R} (h:(split s b Kt Kf).Ok) (hk:Ok c T G Γ ρ s):∃s',s'.nx=s.nx/\(∀ρ,s'.den ρ=s.den ρ)/\Ok c T G Γ ρ s'/\((b.ev ρ=true/\(Kt s').Ok)∨(b.ev ρ=false/\(Kf s').Ok)):=by
 unfold split at h
 cases hb:kb s b with
 | some r =>
   have he:=MA hb hk.sat
   rw [hb] at h
   cases r with
   | true=>exact⟨s,rfl,fun _=>rfl,hk,.inl ⟨he,h⟩⟩
   | false=>exact⟨s,rfl,fun _=>rfl,hk,.inr ⟨he,h⟩⟩
 | none =>
   rw [hb] at h
   obtain⟨h1,h2⟩:=R.fV h
   cases he:b.ev ρ with
   | true=>exact⟨_,(wM s b true).1,(wM s b true).2,hk.MB he,.inl ⟨rfl,h1⟩⟩
   | false=>exact⟨_,(wM s b false).1,(wM s b false).2,hk.MB he,.inr ⟨rfl,h2⟩⟩
def aC (s:SS):SS:=⟨s.nx+1,s.L,s.os,s.ty,s.gs,s.fs,s.bs,s.pw,s.ats,s.c9,s.ne,s.fz,s.sb⟩
def fresh (s:SS) (K:Nat->SS->R):R:=bif s.ok then K s.nx (aC s) else .bad 1 s
theorem az {K:Nat->SS->R} (h:(fresh s K).Ok) (hk:Ok c T G Γ ρ s) (u:U):(K s.nx (aC s)).Ok/\de s.nx ρ (ρ.up s.nx u)/\Ok c T G Γ (ρ.up s.nx u) (aC s)/\(ρ.up s.nx u) s.nx=u:=by
 unfold fresh at h
 cases hs:s.ok with
 | false=>rw [hs] at h; cases h
 | true =>
   rw [hs] at h
   have ha:=HM ρ s.nx u
   obtain⟨e1,e2⟩:=SS.bP hs ha
   have:=e2 hk.sat
   exact⟨h,ha,⟨⟨this.fs,this.bs,this.pw,this.ats,this.c9,this.ne,this.fz,this.sb⟩,by
    have hq:=hk.q
    rw [<-e1] at hq
    exact hq⟩,cM _ _ _⟩
def bu (s:SS) (f:dw):SS:=⟨s.nx,s.L,s.os,f::s.ty,s.gs,s.fs,s.bs,s.pw,s.ats,s.c9,s.ne,s.fz,s.sb⟩
theorem Ok.bu {f:dw} (h:Ok c T G Γ ρ s) (hf:fx c.P c.Φ G Γ (f.den ρ)):Ok c T G Γ ρ (bu s f):=⟨⟨h.sat.fs,h.sat.bs,h.sat.pw,h.sat.ats,h.sat.c9,h.sat.ne,h.sat.fz,h.sat.sb⟩,by
 have q:=h.q
 refine⟨q.ml,q.at_,q.yT,q.rl,q.grow,q.own,q.new,q.nd,q.ht,fun x hx=>?_,q.gs⟩
 rcases List.mem_cons.1 hx with rfl | hx
 · exact hf
 · exact q.ty x hx⟩
def px (s:SS) (p:Nat × LE × LE):SS:=⟨s.nx,s.L,s.os,s.ty,s.gs,s.fs,s.bs,p::s.pw,s.ats,s.c9,s.ne,s.fz,s.sb⟩
theorem Ok.px {p:Nat × LE × LE} (h:Ok c T G Γ ρ s) (hp:0<=p.2.1.ev ρ/\((((ρ p.1).ns.take (p.2.1.ev ρ).toNat).sum:Nat):Int)+p.2.1.ev ρ=p.2.2.ev ρ):Ok c T G Γ ρ (px s p):=⟨⟨h.sat.fs,h.sat.bs,fun q hq=>by
 rcases List.mem_cons.1 hq with rfl | hq
 · exact hp
 · exact h.sat.pw q hq,h.sat.ats,h.sat.c9,h.sat.ne,h.sat.fz,h.sat.sb⟩,h.q⟩
def ly (s:SS) (p:Nat × SC × LE):SS:=⟨s.nx,s.L,s.os,s.ty,s.gs,s.fs,s.bs,s.pw,p::s.ats,s.c9,s.ne,s.fz,s.sb⟩
theorem Ok.ly {p:Nat × SC × LE} (h:Ok c T G Γ ρ s) (hp:OA ρ p):Ok c T G Γ ρ (ly s p):=⟨⟨h.sat.fs,h.sat.bs,h.sat.pw,fun q hq=>by
 rcases List.mem_cons.1 hq with rfl | hq
 · exact hp
 · exact h.sat.ats q hq,h.sat.c9,h.sat.ne,h.sat.fz,h.sat.sb⟩,h.q⟩
def ve (s:SS) (p:Nat × LE × LE):SS:=⟨s.nx,s.L,s.os,s.ty,s.gs,s.fs,s.bs,s.pw,s.ats,p::s.c9,s.ne,s.fz,s.sb⟩
theorem Ok.ve {p:Nat × LE × LE} (h:Ok c T G Γ ρ s) (hp:0<=p.2.1.ev ρ/\(ρ p.1).gg.fz=true/\(((ρ p.1).gg.fl (p.2.1.ev ρ).toNat:Nat):Int)=p.2.2.ev ρ):Ok c T G Γ ρ (ve s p):=⟨⟨h.sat.fs,h.sat.bs,h.sat.pw,h.sat.ats,fun q hq=>by
 rcases List.mem_cons.1 hq with rfl | hq
 · exact hp
 · exact h.sat.c9 q hq,h.sat.ne,h.sat.fz,h.sat.sb⟩,h.q⟩
def KL (s:SS) (p:Nat × Nat × Bool):SS:=⟨s.nx,s.L,s.os,s.ty,p::s.gs,s.fs,s.bs,s.pw,s.ats,s.c9,s.ne,s.fz,s.sb⟩
theorem Ok.KL {p:Nat × Nat × Bool} (h:Ok c T G Γ ρ s) (hp:ig ρ p.1<Γ.ng/\Γ.gd (ig ρ p.1)=(ρ p.2.1).gg/\(p.2.2=true->(ig ρ p.1∈c.Sg∨c.Γ0.ng<=ig ρ p.1)/\(ρ p.2.1).gg.fz=false/\0<ig ρ p.1)):Ok c T G Γ ρ (KL s p):=⟨⟨h.sat.fs,h.sat.bs,h.sat.pw,h.sat.ats,h.sat.c9,h.sat.ne,h.sat.fz,h.sat.sb⟩,by
 have q:=h.q
 refine⟨q.ml,q.at_,q.yT,q.rl,q.grow,q.own,q.new,q.nd,q.ht,q.ty,fun x hx=>?_⟩
 rcases List.mem_cons.1 hx with rfl | hx
 · exact hp
 · exact q.gs x hx⟩
def ghost:List (Nat × Nat × Bool)->Nat->Option Nat
 | [],_=>none
 | p::l,g=>bif Nat.beq p.1 g then some p.2.1 else ghost l g
theorem qf:∀{l:List (Nat × Nat × Bool)} {g d:Nat},ghost l g=some d->∃w,(g,d,w)∈l
 | [],g,d,h=>by cases h
 | p::l,g,d,h=>by
   have h:(bif Nat.beq p.1 g then some p.2.1 else ghost l g)=some d:=h
   cases hb:Nat.beq p.1 g with
   | true=>rw [hb] at h; cases h; have:=Nat.eq_of_beq_eq_true hb; subst this; exact⟨p.2.2,List.mem_cons_self ..⟩
   | false=>rw [hb] at h; obtain⟨w,hw⟩:=qf h; exact⟨w,List.mem_cons_of_mem _ hw⟩
theorem cE {g d:Nat} (h:ghost s.gs g=some d) (hk:Ok c T G Γ ρ s):Γ.gd (ig ρ g)=(ρ d).gg:=by
 obtain⟨w,hw⟩:=qf h
 exact (hk.q.gs (ig ρ g,(ρ d).gg,w) (List.mem_map.2 ⟨(g,d,w),hw,rfl⟩)).2.1
theorem rq {f:TF} (h:fx c.P c.Φ G Γ f):bZ f.v=true:=by
 cases f with
 | sl v cc g ns=>rcases h.form with ⟨h,_⟩ | ⟨b,o,cp,h⟩<;>(show bZ v=true; rw [h]; rfl)
 | pt v cc g=>obtain⟨b,L,h,_⟩:=h; show bZ v=true; rw [h]; rfl
 | mp v cc g=>obtain⟨b,h,_⟩:=h; show bZ v=true; rw [h]; rfl
 | el v c j off x=>obtain⟨b,o,l,cap,el,size,C,h,_⟩:=h; show bZ v=true; rw [h]; rfl
def vf (Φ:Forms) (g cc:Nat):Nat:=bif Φ.dep cc then g else 0
theorem qg {Φ:Forms} {d:Gd} {g cc:Nat} (hv:Φ.via cc=false):gi Φ d (ig ρ g) cc=ig ρ (vf Φ g cc):=by
 unfold gi vf
 rw [hv]
 cases Φ.dep cc<;>rfl
def wN:List (Nat × LE × LE)->Nat->LE->Option LE
 | [],_,_=>none
 | p::l,d,j=>bif Nat.beq p.1 d&&p.2.1.same j then some p.2.2 else wN l d j
theorem py:∀{l:List (Nat × LE × LE)} {d:Nat} {j e:LE},wN l d j=some e->∃j',(d,j',e)∈l/\∀ρ,j'.ev ρ=j.ev ρ
 | [],d,j,e,h=>by cases h
 | p::l,d,j,e,h=>by
   have h:(bif Nat.beq p.1 d&&p.2.1.same j then some p.2.2 else wN l d j)=some e:=h
   cases hb:(Nat.beq p.1 d&&p.2.1.same j) with
   | true =>
     rw [hb] at h; cases h
     rw [Bool.and_eq_true] at hb
     have:=Nat.eq_of_beq_eq_true hb.1; subst this
     exact⟨p.2.1,List.mem_cons_self ..,LE.bj hb.2⟩
   | false=>rw [hb] at h; obtain⟨j',h1,h2⟩:=py h; exact⟨j',List.mem_cons_of_mem _ h1,h2⟩
def OE (cf:Cf) (g cc:Nat) (s:SS) (K:Nat->SS->R):R:=bif cf.Φ.via cc then .bad 2 s else fresh s fun x s=>K x (bu s (.sl x cc (vf cf.Φ g cc)))
def plain (Φ:Forms) (cc x:Nat):Option Nat:=bif Φ.fy cc then none else some x
def td (cf:Cf) (g:Nat) (d:Option Nat) (j:LE) (k:K2) (s:SS) (K:SC->Option Nat->SS->R):R:=match k with
 | .int kd=>fresh s fun x s=>K (.int kd (.a (.z x))) none s
 | .nat b=>fresh s fun x s=>K (.int .i64 (.a (.n x))) none (match d with | some d=>aP s (((LE.a (.gn d b)).sub (.a (.n x))).aW (-1)) | none=>s)
 | .str=>fresh s fun x s=>K (.str x) none s
 | .qb=>fresh s fun x s=>K (.str x) none (match d with | some d=>ly s (d,.str x,j) | none=>s)
 | .uc b=>fresh s fun x s=>K (.str x) none (aP s ((LE.k b).sub (.a (.sl x))))
 | .bool=>fresh s fun x s=>K (.bool (.v x)) none s
 | .n6 kd=>fresh s fun x s=>K (.n6 kd x) none s
 | .sl cc=>OE cf g cc s fun x s=>K (.ref x) (plain cf.Φ cc x) s
 | .Ax cc b=>OE cf g cc s fun x s=>K (.ref x) (plain cf.Φ cc x) (aP s ((LE.k b).sub (.a (.len x))))
 | .zG cc b=>OE cf g cc s fun x s=>K (.ref x) (plain cf.Φ cc x) (match d with | some d=>aP s ((LE.a (.gn d b)).sub (.a (.len x))) | none=>s)
 | .xq cc b=>OE cf g cc s fun x s=>K (.ref x) (plain cf.Φ cc x) (match d with | some d=>aP (aP s ((LE.a (.gn d b)).sub (.a (.len x)))) ((LE.a (.len x)).sub (.a (.gn d b))) | none=>s)
 | .yS cc=>OE cf g cc s fun x s=>K (.ref x) (plain cf.Φ cc x) (match d with | some d=>(match wN s.c9 d j with | some e=>aP (aP s (e.sub (.a (.len x)))) ((LE.a (.len x)).sub e) | none=>ve s (d,j,.a (.len x))) | none=>s)
 | .ptr cc=>Ut cf g cc s K
 | .D1 cc=>(K .dq none s).and (Ut cf g cc s K)
 | .mp cc=>Uu cf g cc s K
 | .D2 cc=>(K .aV none s).and (Uu cf g cc s K)
 | .bad=>.bad 3 s
 where
 Ut (cf:Cf) (g cc:Nat) (s:SS) (K:SC->Option Nat->SS->R):R:=bif cf.Φ.via cc
  then fresh s fun y s=>fresh (s) fun dv s=>fresh s fun x s=>K (.ref x) none (KL (bu s (.pt x cc (y+1))) (y+1,dv,false))
  else fresh s fun x s=>K (.ref x) none (bu s (.pt x cc (vf cf.Φ g cc)))
 Uu (cf:Cf) (g cc:Nat) (s:SS) (K:SC->Option Nat->SS->R):R:=bif cf.Φ.via cc then .bad 2 s else fresh s fun x s=>K (.ref x) none (bu s (.mp x cc (vf cf.Φ g cc)))
end
end Go.Rd
namespace Go.Rd
open Go.aQ Go.RowKit Go.Rt
def HZ (ρ:bc):Option Nat->Nat | some y=>(ρ y).ns.sum+(ρ y).ns.length | none=>0
def JC (n:Nat):Option Nat->Bool | some y=>Nat.blt y n | none=>true
section
variable {c:Cx} {T:Tm} {G:GH} {Γ:c8} {ρ ρ':bc} {s s':SS} {cf:Cf}
theorem iA {x n:Nat} (h:x<n):Nat.blt x n=true:=Nat.ble_eq_true_of_le h
theorem dF (n:Nat):Nat.blt n (n+1)=true:=iA (Nat.lt_succ_self n)
theorem OG {cc:Nat} {v:AV} {g:Nat} (h:fx c.P c.Φ G Γ (.pt v cc g)) (ht:HT c.P c.Φ G Γ):g<Γ.ng:=by
 obtain⟨b,L,h1,h2,h3⟩:=h
 exact (ht.b _ _ h2).1.1
theorem te {g cc:Nat} {K:Nat->SS->R} {v:AV} {ns:List Nat} {d:Gd} (h:(OE cf g cc s K).Ok) (hΦ:cf.Φ=c.Φ) (hk:Ok c T G Γ ρ s) (hg:bR s.nx g=true) (ht:fx c.P c.Φ G Γ (.sl v cc (gi c.Φ d (ig ρ g) cc) ns)) :
  ∃ρ' s',(K s.nx s').Ok/\de s.nx ρ ρ'/\s'.nx=s.nx+1/\Ok c T G Γ ρ' s'/\(ρ' s.nx).vv=v/\(ρ' s.nx).ns=ns/\s'.c9=s.c9:=by
 unfold OE at h
 rw [hΦ] at h
 cases hv:c.Φ.via cc with
 | true=>rw [hv] at h; cases h
 | false =>
   rw [hv] at h
   simp only [td,cond_true,cond_false] at h
   obtain⟨h1,h2,h3,h4⟩:=az h hk (.v v ns)
   have hr:bZ v=true:=rq ht
   have e1:(ρ.up s.nx (.v v ns) s.nx).vv=v:=by rw [h4]; exact U.jy hr
   have e2:(ρ.up s.nx (.v v ns) s.nx).ns=ns:=by rw [h4]; exact U.j4 ht.1
   refine⟨_,_,h1,h2,rfl,h3.bu ?_,e1,e2,rfl⟩
   show fx c.P c.Φ G Γ (.sl _ cc (ig _ (vf c.Φ g cc)) _)
   have:ig (ρ.up s.nx (.v v ns)) (vf c.Φ g cc)=gi c.Φ d (ig ρ g) cc:=by
    rw [qg hv]
    unfold vf
    cases c.Φ.dep cc with
    | true=>exact bV h2 hg
    | false=>rfl
   rw [e1,e2,this]
   exact ht
def U8 (c:Cx) (T:Tm) (G:GH) (Γ:c8) (s:SS) (ρ:bc) (v:AV) (w:Nat) (K:SC->Option Nat->SS->R):Prop :=
 fa c T G Γ s ρ fun ρ' s'=>∃x o,(K x o s').Ok/\x.den ρ'=v/\x.lt s'.nx=true/\HZ ρ' o=w/\JC s'.nx o=true
theorem fI {Φ:Forms} {cc x:Nat} {v:AV} {g:Nat} {ns:List Nat} (e:(ρ x).ns=ns):HZ ρ (plain Φ cc x)=iH Φ [.sl v cc g ns]:=by
 unfold plain
 simp only [iH,sw,List.map_cons,List.map_nil,List.sum_cons,List.sum_nil]
 cases Φ.fy cc with
 | true=>rfl
 | false=>simp [HZ,e]
theorem gG {Φ:Forms} {cc x n:Nat} (h:x<n):JC n (plain Φ cc x)=true:=by
 unfold plain
 cases Φ.fy cc with
 | true=>rfl
 | false=>exact iA h
theorem H0 {g cc:Nat} {K:SC->Option Nat->SS->R} {v:AV} {d:Gd} (h:(td.Ut cf g cc s K).Ok) (hΦ:cf.Φ=c.Φ) (hk:Ok c T G Γ ρ s) (hg:bR s.nx g=true) (ht:fx c.P c.Φ G Γ (.pt v cc (gi c.Φ d (ig ρ g) cc))):U8 c T G Γ s ρ v 0 K:=by
 unfold td.Ut at h
 rw [hΦ] at h
 have hr:bZ v=true:=rq ht
 cases hv:c.Φ.via cc with
 | false =>
   rw [hv] at h
   simp only [td,cond_true,cond_false] at h
   obtain⟨h1,h2,h3,h4⟩:=az h hk (.v v [])
   have e1:(ρ.up s.nx (.v v []) s.nx).vv=v:=by rw [h4]; exact U.jy hr
   refine fa.mk h2 (by show s.nx<=s.nx+1; omega) (h3.bu ?_) ⟨_,_,h1,e1,dF _,rfl,rfl⟩
   show fx c.P c.Φ G Γ (.pt _ cc (ig _ (vf c.Φ g cc)))
   have:ig (ρ.up s.nx (.v v [])) (vf c.Φ g cc)=gi c.Φ d (ig ρ g) cc:=by
    rw [qg hv]
    unfold vf
    cases c.Φ.dep cc with
    | true=>exact bV h2 hg
    | false=>rfl
   rw [e1,this]
   exact ht
 | true =>
   rw [hv] at h
   have egi:gi c.Φ d (ig ρ g) cc=d.sub:=by unfold gi; rw [hv]; rfl
   rw [egi] at ht
   simp only [cond_true,cond_false] at h
   obtain⟨h1,a1,o1,e1⟩:=az h hk (.n d.sub)
   obtain⟨h2,a2,o2,e2⟩:=az h1 o1 (.g (Γ.gd d.sub))
   obtain⟨h3,a3,o3,e3⟩:=az h2 o2 (.v v [])
   have k1:(((ρ.up s.nx (.n d.sub)).up (s.nx+1) (.g (Γ.gd d.sub))).up (s.nx+2) (.v v [])) s.nx=.n d.sub:=by simp [bc.up]
   have k2:(((ρ.up s.nx (.n d.sub)).up (s.nx+1) (.g (Γ.gd d.sub))).up (s.nx+2) (.v v [])) (s.nx+1)=.g (Γ.gd d.sub):=by simp [bc.up]
   have k3:(((ρ.up s.nx (.n d.sub)).up (s.nx+1) (.g (Γ.gd d.sub))).up (s.nx+2) (.v v [])) (s.nx+2)=.v v []:=by simp [bc.up]
   have a:de s.nx ρ (((ρ.up s.nx (.n d.sub)).up (s.nx+1) (.g (Γ.gd d.sub))).up (s.nx+2) (.v v [])):=fun i hi=>by
    simp only [bc.up]; rw [if_neg (by omega),if_neg (by omega),if_neg (by omega)]
   refine fa.mk a (by show s.nx<=s.nx+1+1+1; omega) ((o3.bu ?_).KL ⟨?_,?_,fun hf=>by cases hf⟩) ⟨_,_,h3,?_,dF _,rfl,rfl⟩
   · show fx c.P c.Φ G Γ (.pt ((((ρ.up s.nx (.n d.sub)).up (s.nx+1) (.g (Γ.gd d.sub))).up (s.nx+2) (.v v [])) (s.nx+2)).vv cc ((((ρ.up s.nx (.n d.sub)).up (s.nx+1) (.g (Γ.gd d.sub))).up (s.nx+2) (.v v [])) s.nx).nn)
     rw [k1,k3,U.jy hr]
     exact ht
   · show ((((ρ.up s.nx (.n d.sub)).up (s.nx+1) (.g (Γ.gd d.sub))).up (s.nx+2) (.v v [])) s.nx).nn<Γ.ng
     rw [k1]
     exact OG ht hk.q.ht
   · show Γ.gd ((((ρ.up s.nx (.n d.sub)).up (s.nx+1) (.g (Γ.gd d.sub))).up (s.nx+2) (.v v [])) s.nx).nn=((((ρ.up s.nx (.n d.sub)).up (s.nx+1) (.g (Γ.gd d.sub))).up (s.nx+2) (.v v [])) (s.nx+1)).gg
     rw [k1,k2]; rfl
   · show ((((ρ.up s.nx (.n d.sub)).up (s.nx+1) (.g (Γ.gd d.sub))).up (s.nx+2) (.v v [])) (s.nx+2)).vv=v
     rw [k3]; exact U.jy hr
theorem H2 {g cc:Nat} {K:SC->Option Nat->SS->R} {v:AV} {d:Gd} (h:(td.Uu cf g cc s K).Ok) (hΦ:cf.Φ=c.Φ) (hk:Ok c T G Γ ρ s) (hg:bR s.nx g=true) (ht:fx c.P c.Φ G Γ (.mp v cc (gi c.Φ d (ig ρ g) cc))):U8 c T G Γ s ρ v 0 K:=by
 unfold td.Uu at h
 rw [hΦ] at h
 have hr:bZ v=true:=rq ht
 cases hv:c.Φ.via cc with
 | false =>
   rw [hv] at h
   simp only [td,cond_true,cond_false] at h
   obtain⟨h1,h2,h3,h4⟩:=az h hk (.v v [])
   have e1:(ρ.up s.nx (.v v []) s.nx).vv=v:=by rw [h4]; exact U.jy hr
   refine fa.mk h2 (by show s.nx<=s.nx+1; omega) (h3.bu ?_) ⟨_,_,h1,e1,dF _,rfl,rfl⟩
   show fx c.P c.Φ G Γ (.mp _ cc (ig _ (vf c.Φ g cc)))
   have:ig (ρ.up s.nx (.v v [])) (vf c.Φ g cc)=gi c.Φ d (ig ρ g) cc:=by
    rw [qg hv]
    unfold vf
    cases c.Φ.dep cc with
    | true=>exact bV h2 hg
    | false=>rfl
   rw [e1,this]
   exact ht
 | true=>rw [hv] at h; cases h
theorem AJ {g J:Nat} {d:Option Nat} {j:LE} {k:K2} {K:SC->Option Nat->SS->R} {v:AV} {fs:List TF} (h:(td cf g d j k s K).Ok) (hΦ:cf.Φ=c.Φ) (hk:Ok c T G Γ ρ s) (hg:bR s.nx g=true)
  (hd:∀dv,d=some dv->dv<s.nx/\Γ.gd (ig ρ g)=(ρ dv).gg) (hj:j.lt s.nx=true/\0<=j.ev ρ/\J=(j.ev ρ).toNat) (hv:Kv c.Φ (Γ.gd (ig ρ g)) (ig ρ g) J k v fs) (hf:∀f∈fs,fx c.P c.Φ G Γ f):U8 c T G Γ s ρ v (iH c.Φ fs) K:=by
 obtain⟨hj1,hj2,hj3⟩:=hj
 cases k with
 | int kd =>
   obtain⟨⟨z,rfl⟩,rfl⟩:=hv
   simp only [td,cond_true,cond_false] at h
   obtain⟨h1,h2,h3,h4⟩:=az h hk (.z z)
   exact fa.mk h2 (Nat.le_succ _) h3 ⟨_,_,h1,by simp only [SC.den,LE.a9,Rd.At.ev]; rw [h4]; rfl,by simp [SC.lt,LE.lt,LE.a,aC,At.id,dF],rfl,rfl⟩
 | nat b =>
   obtain⟨⟨n,rfl,hlt⟩,rfl⟩:=hv
   simp only [td,cond_true,cond_false] at h
   obtain⟨h1,h2,h3,h4⟩:=az h hk (.n n)
   have hev:(LE.a (.n s.nx)).ev (ρ.up s.nx (.n n))=n:=by rw [LE.a9]; show ((ρ.up s.nx (.n n) s.nx).nn:Int)=n; rw [h4]; rfl
   have hden:SC.den (ρ.up s.nx (.n n)) (.int .i64 (.a (.n s.nx)))=.int .i64 (.ofNat n):=by simp only [SC.den,hev]; rfl
   cases d with
   | none=>exact fa.mk h2 (Nat.le_succ _) h3 ⟨_,_,h1,hden,by simp [SC.lt,LE.lt,LE.a,aC,At.id,dF],rfl,rfl⟩
   | some dv =>
     obtain⟨d1,d2⟩:=hd dv rfl
     refine fa.mk h2 (Nat.le_succ _) (h3.aP ?_) ⟨_,_,h1,hden,by simp [SC.lt,LE.lt,LE.a,aC,aP,At.id,dF],rfl,rfl⟩
     rw [LE.aJ,LE.aw,hev,LE.a9]
     show 0<=(((ρ.up s.nx (.n n) dv).gg.n b:Nat):Int)-n+-1
     rw [h2 dv d1,<-d2]; omega
 | str =>
   obtain⟨⟨l,n,rfl,hlim⟩,rfl⟩:=hv
   simp only [td,cond_true,cond_false] at h
   obtain⟨h1,h2,h3,h4⟩:=az h hk (.s l n)
   exact fa.mk h2 (Nat.le_succ _) h3 ⟨_,_,h1,by simp only [SC.den]; rw [h4,U.nB hlim]; rfl,by simp [SC.lt,aC,dF],rfl,rfl⟩
 | uc b =>
   obtain⟨⟨l,n,rfl,hlim,hlb⟩,rfl⟩:=hv
   simp only [td,cond_true,cond_false] at h
   obtain⟨h1,h2,h3,h4⟩:=az h hk (.s l n)
   refine fa.mk h2 (Nat.le_succ _) (h3.aP ?_) ⟨_,_,h1,by simp only [SC.den]; rw [h4,U.nB hlim]; rfl,by simp [SC.lt,aC,aP,dF],rfl,rfl⟩
   rw [LE.aw,LE.bp,LE.a9]
   show 0<=(b:Int)-(((ρ.up s.nx (.s l n)) s.nx).sl:Int)
   rw [h4,U.nB hlim]
   omega
 | qb =>
   obtain⟨⟨l,n,rfl,hlim,hat⟩,rfl⟩:=hv
   simp only [td,cond_true,cond_false] at h
   obtain⟨h1,h2,h3,h4⟩:=az h hk (.s l n)
   have hden:SC.den (ρ.up s.nx (.s l n)) (.str s.nx)=.str l n:=by simp only [SC.den]; rw [h4,U.nB hlim]; rfl
   cases d with
   | none=>exact fa.mk h2 (Nat.le_succ _) h3 ⟨_,_,h1,hden,by simp [SC.lt,aC,dF],rfl,rfl⟩
   | some dv =>
     obtain⟨d1,d2⟩:=hd dv rfl
     refine fa.mk h2 (Nat.le_succ _) (h3.ly ?_) ⟨_,_,h1,hden,by simp [SC.lt,aC,ly,dF],rfl,rfl⟩
     refine .inl ?_
     show 0<=j.ev _/\zH (ρ.up s.nx (.s l n) dv).gg (SC.den (ρ.up s.nx (.s l n)) (.str s.nx))=some (j.ev _).toNat
     rw [LE.bP h2 hj1,h2 dv d1,<-d2,hden]
     exact⟨hj2,by rw [<-hj3]; exact hat⟩
 | bool =>
   obtain⟨⟨b,rfl⟩,rfl⟩:=hv
   simp only [td,cond_true,cond_false] at h
   obtain⟨h1,h2,h3,h4⟩:=az h hk (.b b)
   exact fa.mk h2 (Nat.le_succ _) h3 ⟨_,_,h1,by simp only [SC.den,BE.ev]; rw [h4]; rfl,by simp [SC.lt,BE.lt,aC,dF],rfl,rfl⟩
 | n6 kd =>
   obtain⟨⟨b,rfl⟩,rfl⟩:=hv
   simp only [td,cond_true,cond_false] at h
   obtain⟨h1,h2,h3,h4⟩:=az h hk (.n b)
   exact fa.mk h2 (Nat.le_succ _) h3 ⟨_,_,h1,by simp only [SC.den]; rw [h4]; rfl,by simp [SC.lt,aC,dF],rfl,rfl⟩
 | sl cc =>
   obtain⟨ns,rfl⟩:=hv
   simp only [td] at h
   obtain⟨ρ1,s1,h1,h2,h3,h4,h5,h6,_⟩:=te h hΦ hk hg (hf _ (List.mem_singleton_self _))
   rw [hΦ] at h1
   exact fa.mk h2 (by omega) h4 ⟨_,_,h1,h5,by simp only [SC.lt]; exact iA (by omega),fI h6,gG (by omega)⟩
 | Ax cc b =>
   obtain⟨ns,rfl,hle⟩:=hv
   simp only [td] at h
   obtain⟨ρ1,s1,h1,h2,h3,h4,h5,h6,_⟩:=te h hΦ hk hg (hf _ (List.mem_singleton_self _))
   rw [hΦ] at h1
   refine fa.mk h2 (by show s.nx<=s1.nx; omega) (h4.aP ?_) ⟨_,_,h1,h5,by simp only [SC.lt]; exact iA (by show s.nx<s1.nx; omega),fI h6,gG (by show s.nx<s1.nx; omega)⟩
   rw [LE.aw,LE.bp,LE.a9]
   show 0<=(b:Int)-((ρ1 s.nx).ns.length:Int)
   rw [h6]; omega
 | zG cc b =>
   obtain⟨ns,rfl,hle⟩:=hv
   simp only [td] at h
   obtain⟨ρ1,s1,h1,h2,h3,h4,h5,h6,_⟩:=te h hΦ hk hg (hf _ (List.mem_singleton_self _))
   rw [hΦ] at h1
   cases d with
   | none=>exact fa.mk h2 (by omega) h4 ⟨_,_,h1,h5,by simp only [SC.lt]; exact iA (by omega),fI h6,gG (by omega)⟩
   | some dv =>
     obtain⟨d1,d2⟩:=hd dv rfl
     refine fa.mk h2 (by show s.nx<=s1.nx; omega) (h4.aP ?_) ⟨_,_,h1,h5,by simp only [SC.lt]; exact iA (by show s.nx<s1.nx; omega),fI h6,gG (by show s.nx<s1.nx; omega)⟩
     rw [LE.aw,LE.a9,LE.a9]
     show 0<=(((ρ1 dv).gg.n b:Nat):Int)-((ρ1 s.nx).ns.length:Int)
     rw [h6,h2 dv d1,<-d2]; omega
 | xq cc b =>
   obtain⟨ns,rfl,hz,hle⟩:=hv
   simp only [td] at h
   obtain⟨ρ1,s1,h1,h2,h3,h4,h5,h6,_⟩:=te h hΦ hk hg (hf _ (List.mem_singleton_self _))
   rw [hΦ] at h1
   cases d with
   | none=>exact fa.mk h2 (by omega) h4 ⟨_,_,h1,h5,by simp only [SC.lt]; exact iA (by omega),fI h6,gG (by omega)⟩
   | some dv =>
     obtain⟨d1,d2⟩:=hd dv rfl
     refine fa.mk h2 (by show s.nx<=s1.nx; omega) ((h4.aP ?_).aP ?_) ⟨_,_,h1,h5,by simp only [SC.lt]; exact iA (by show s.nx<s1.nx; omega),fI h6,gG (by show s.nx<s1.nx; omega)⟩
     · rw [LE.aw,LE.a9,LE.a9]
       show 0<=(((ρ1 dv).gg.n b:Nat):Int)-((ρ1 s.nx).ns.length:Int)
       rw [h6,h2 dv d1,<-d2]; omega
     · rw [LE.aw,LE.a9,LE.a9]
       show 0<=((ρ1 s.nx).ns.length:Int)-(((ρ1 dv).gg.n b:Nat):Int)
       rw [h6,h2 dv d1,<-d2]; omega
 | yS cc =>
   obtain⟨ns,rfl,hz,hle⟩:=hv
   simp only [td] at h
   obtain⟨ρ1,s1,h1,h2,h3,h4,h5,h6,h7⟩:=te h hΦ hk hg (hf _ (List.mem_singleton_self _))
   rw [hΦ] at h1
   cases d with
   | none=>exact fa.mk h2 (by omega) h4 ⟨_,_,h1,h5,by simp only [SC.lt]; exact iA (by omega),fI h6,gG (by omega)⟩
   | some dv =>
     obtain⟨d1,d2⟩:=hd dv rfl
     have hlen:(LE.a (.len s.nx)).ev ρ1=(ns.length:Int):=by rw [LE.a9]; show (((ρ1 s.nx).ns.length:Nat):Int)=_; rw [h6]
     simp only at h1
     cases hl:wN s1.c9 dv j with
     | none =>
       rw [hl] at h1
       refine fa.mk h2 (by show s.nx<=s1.nx; omega) (h4.ve ?_) ⟨_,_,h1,h5,by simp only [SC.lt]; exact iA (by show s.nx<s1.nx; omega),fI h6,gG (by show s.nx<s1.nx; omega)⟩
       show 0<=j.ev ρ1/\(ρ1 dv).gg.fz=true/\(((ρ1 dv).gg.fl (j.ev ρ1).toNat:Nat):Int)=(LE.a (.len s.nx)).ev ρ1
       rw [LE.bP h2 hj1,h2 dv d1,<-d2,hlen,<-hj3,hle]
       exact⟨hj2,hz,rfl⟩
     | some e =>
       rw [hl] at h1
       obtain⟨j',m1,m2⟩:=py hl
       obtain⟨_,_,k3⟩:=h4.sat.c9 _ m1
       have k3:(((ρ1 dv).gg.fl (j'.ev ρ1).toNat:Nat):Int)=e.ev ρ1:=k3
       rw [m2 ρ1,LE.bP h2 hj1,<-hj3,h2 dv d1,<-d2,<-hle] at k3
       refine fa.mk h2 (by show s.nx<=s1.nx; omega) ((h4.aP ?_).aP ?_) ⟨_,_,h1,h5,by simp only [SC.lt]; exact iA (by show s.nx<s1.nx; omega),fI h6,gG (by show s.nx<s1.nx; omega)⟩
       · rw [LE.aw,hlen]; omega
       · rw [LE.aw,hlen]; omega
 | ptr cc=>cases hv; exact H0 h hΦ hk hg (hf _ (List.mem_singleton_self _))
 | D1 cc =>
   obtain⟨h1,h2⟩:=R.fV h
   rcases hv with ⟨rfl,rfl⟩ | rfl
   · exact fa.here hk ⟨_,_,h1,rfl,rfl,rfl,rfl⟩
   · exact H0 h2 hΦ hk hg (hf _ (List.mem_singleton_self _))
 | mp cc=>cases hv; exact H2 h hΦ hk hg (hf _ (List.mem_singleton_self _))
 | D2 cc =>
   obtain⟨h1,h2⟩:=R.fV h
   rcases hv with ⟨rfl,rfl⟩ | rfl
   · exact fa.here hk ⟨_,_,h1,rfl,rfl,rfl,rfl⟩
   · exact H2 h2 hΦ hk hg (hf _ (List.mem_singleton_self _))
 | bad=>exact hv.elim
def OH (cf:Cf) (g:Nat) (d:Option Nat) (j:LE):List K2->(List SC->List Nat->SS->R)->SS->R
 | [],K,s=>K [] [] s
 | k::ks,K,s=>td cf g d j k s fun x o s=>OH cf g d j ks (fun xs os s=>K (x::xs) (o.toList++os) s) s
def iB:List Nat->LE
 | []=>.k 0
 | x::xs=>(iB xs).add (.a (.wt x))
theorem wO:∀xs,((iB xs).ev ρ:Int)=((xs.map fun x=>(ρ x).ns.sum+(ρ x).ns.length).sum:Nat)
 | []=>by rw [iB,LE.bp]; rfl
 | x::xs=>by
   rw [iB,LE.gF,LE.a9,wO xs,List.map_cons,List.sum_cons]
   show _+(((ρ x).ns.sum+(ρ x).ns.length:Nat):Int)=_
   omega
theorem OI {g dv:Nat} (h:de s.nx ρ ρ') (hg:bR s.nx g=true) (hd:dv<s.nx/\Γ.gd (ig ρ g)=(ρ dv).gg) {n:Nat} (hn:s.nx<=n):dv<n/\Γ.gd (ig ρ' g)=(ρ' dv).gg:=by
 rw [bV h hg,h dv hd.1]; exact⟨by omega,hd.2⟩
theorem D6 {n n' g:Nat} (h:bR n g=true) (hn:n<=n'):bR n' g=true:=Nat.ble_eq_true_of_le (Nat.le_trans (aL h) hn)
theorem LE.KM {n n':Nat} {e:LE} (h:e.lt n=true) (hn:n<=n'):e.lt n'=true:=by
 unfold LE.lt at h ⊢
 rw [List.all_eq_true] at h ⊢
 exact fun p hp=>iA (by have:=au (h p hp); omega)
theorem KN {n:Nat} {o:Option Nat} (h:JC n o=true):∀x∈o.toList,x<n:=by
 cases o with
 | none=>intro x hx; cases hx
 | some y=>intro x hx; rw [List.mem_singleton.1 hx]; exact au h
theorem B2 {g J:Nat} {d:Option Nat} {j:LE} (hΦ:cf.Φ=c.Φ):∀{ks:List K2} {s:SS} {ρ:bc} {K:List SC->List Nat->SS->R} {cs:List AV} {fs:List TF},(OH cf g d j ks K s).Ok->Ok c T G Γ ρ s->bR s.nx g=true ->
  (∀dv,d=some dv->dv<s.nx/\Γ.gd (ig ρ g)=(ρ dv).gg)->(j.lt s.nx=true/\0<=j.ev ρ/\J=(j.ev ρ).toNat)->gP c.Φ (Γ.gd (ig ρ g)) (ig ρ g) J ks cs fs->(∀f∈fs,fx c.P c.Φ G Γ f) ->
  fa c T G Γ s ρ fun ρ' s'=>∃xs os,(K xs os s').Ok/\aE ρ' xs=cs/\(∀y∈os,y<s'.nx)/\((os.map fun x=>(ρ' x).ns.sum+(ρ' x).ns.length).sum=iH c.Φ fs)
 | [],s,ρ,K,cs,fs,h,hk,hg,hd,hj,⟨h1,h2⟩,hf=>by
   subst h1 h2
   exact fa.here hk ⟨[],[],h,rfl,(fun y hy=>by cases hy),rfl⟩
 | k::ks,s,ρ,K,_,_,h,hk,hg,hd,hj,⟨v,cs',f,fs',h1,h2,h3,h4⟩,hf=>by
   subst h1 h2
   refine (AJ h hΦ hk hg hd hj h3 fun x hx=>hf x (List.mem_append_left _ hx)).bind fun ρ1 s1 a1 n1 o1 ⟨x,o,g1,g2,g3,g4,g5⟩=>?_
   refine (B2 hΦ (J:=J) g1 o1 (D6 hg n1) (fun dv he=>OI a1 hg (hd dv he) n1) ⟨LE.KM hj.1 n1,by rw [LE.bP a1 hj.1]; exact hj.2⟩ (by rw [bV a1 hg]; exact h4) fun x hx=>hf x (List.mem_append_right _ hx)).mono fun ρ2 s2 a2 n2 o2 hh=>?_
   obtain⟨xs,os,k1,k2,k3,k4⟩:=hh
   refine⟨_,_,k1,?_,fun y hy=>?_,?_⟩
   · show x.den ρ2::aE ρ2 xs=_
     rw [SC.bP a2 g3,g2,k2]
   · rcases List.mem_append.1 hy with hy | hy
     · have:=KN g5 y hy; omega
     · exact k3 y hy
   · rw [List.map_append,List.sum_append,k4,gY,<-g4]
     congr 1
     cases o with
     | none=>rfl
     | some y =>
       have:=au g5
       simp only [Option.toList,List.map_cons,List.map_nil,List.sum_cons,List.sum_nil,HZ,Nat.add_zero]
       rw [a2 y this]
end
end Go.Rd
namespace Go.Rd
open Go.aQ Go.RowKit Go.Rt
def sc (x:SC):SV:=.v false [x]
def oi:List dw->Nat->Option (Nat × Nat)
 | [],_=>none
 | .sl y c g::l,x=>bif Nat.beq y x then some (c,g) else oi l x
 | _::l,x=>oi l x
def nF:List dw->Nat->Option (Nat × Nat)
 | [],_=>none
 | .pt y c g::l,x=>bif Nat.beq y x then some (c,g) else nF l x
 | _::l,x=>nF l x
def wP:List dw->Nat->Option (Nat × Nat)
 | [],_=>none
 | .mp y c g::l,x=>bif Nat.beq y x then some (c,g) else wP l x
 | _::l,x=>wP l x
theorem ia:∀{l:List dw} {x c g:Nat},oi l x=some (c,g)->dw.sl x c g∈l
 | [],_,_,_,h=>by cases h
 | .sl y c' g'::l,x,c,g,h=>by
   have h:(bif Nat.beq y x then some (c',g') else oi l x)=some (c,g):=h
   cases hb:Nat.beq y x with
   | true=>rw [hb] at h; cases h; have:=Nat.eq_of_beq_eq_true hb; subst this; exact List.mem_cons_self ..
   | false=>rw [hb] at h; exact List.mem_cons_of_mem _ (ia h)
 | .pt y c' g'::l,x,c,g,h=>List.mem_cons_of_mem _ (ia (l:=l) h)
 | .mp y c' g'::l,x,c,g,h=>List.mem_cons_of_mem _ (ia (l:=l) h)
 | .el _ _ _ _ _::l,x,c,g,h=>List.mem_cons_of_mem _ (ia (l:=l) h)
theorem iM:∀{l:List dw} {x c g:Nat},nF l x=some (c,g)->dw.pt x c g∈l
 | [],_,_,_,h=>by cases h
 | .pt y c' g'::l,x,c,g,h=>by
   have h:(bif Nat.beq y x then some (c',g') else nF l x)=some (c,g):=h
   cases hb:Nat.beq y x with
   | true=>rw [hb] at h; cases h; have:=Nat.eq_of_beq_eq_true hb; subst this; exact List.mem_cons_self ..
   | false=>rw [hb] at h; exact List.mem_cons_of_mem _ (iM h)
 | .sl y c' g'::l,x,c,g,h=>List.mem_cons_of_mem _ (iM (l:=l) h)
 | .mp y c' g'::l,x,c,g,h=>List.mem_cons_of_mem _ (iM (l:=l) h)
 | .el _ _ _ _ _::l,x,c,g,h=>List.mem_cons_of_mem _ (iM (l:=l) h)
theorem iN:∀{l:List dw} {x c g:Nat},wP l x=some (c,g)->dw.mp x c g∈l
 | [],_,_,_,h=>by cases h
 | .mp y c' g'::l,x,c,g,h=>by
   have h:(bif Nat.beq y x then some (c',g') else wP l x)=some (c,g):=h
   cases hb:Nat.beq y x with
   | true=>rw [hb] at h; cases h; have:=Nat.eq_of_beq_eq_true hb; subst this; exact List.mem_cons_self ..
   | false=>rw [hb] at h; exact List.mem_cons_of_mem _ (iN h)
 | .sl y c' g'::l,x,c,g,h=>List.mem_cons_of_mem _ (iN (l:=l) h)
 | .pt y c' g'::l,x,c,g,h=>List.mem_cons_of_mem _ (iN (l:=l) h)
 | .el _ _ _ _ _::l,x,c,g,h=>List.mem_cons_of_mem _ (iN (l:=l) h)
def jk:List SO->Nat->Option (TypeId × List SC)
 | [],_=>none
 | .loc b el cs::l,x=>bif Nat.beq b x then some (el,cs) else jk l x
 | _::l,x=>jk l x
theorem dT:∀{l:List SO} {x:Nat} {el:TypeId} {cs:List SC},jk l x=some (el,cs)->SO.loc x el cs∈l
 | [],_,_,_,h=>by cases h
 | .loc b el' cs'::l,x,el,cs,h=>by
   have h:(bif Nat.beq b x then some (el',cs') else jk l x)=some (el,cs):=h
   cases hb:Nat.beq b x with
   | true=>rw [hb] at h; cases h; have:=Nat.eq_of_beq_eq_true hb; subst this; exact List.mem_cons_self ..
   | false=>rw [hb] at h; exact List.mem_cons_of_mem _ (dT h)
 | .iE y c'::l,x,el,cs,h=>List.mem_cons_of_mem _ (dT (l:=l) h)
 | .em y c'::l,x,el,cs,h=>List.mem_cons_of_mem _ (dT (l:=l) h)
 | .ul y c' _::l,x,el,cs,h=>List.mem_cons_of_mem _ (dT (l:=l) h)
 | .am y c' _::l,x,el,cs,h=>List.mem_cons_of_mem _ (dT (l:=l) h)
 | .im y c'::l,x,el,cs,h=>List.mem_cons_of_mem _ (dT (l:=l) h)
 | .bl y c' g'::l,x,el,cs,h=>List.mem_cons_of_mem _ (dT (l:=l) h)
 | .km _ _ _ _::l,x,el,cs,h=>List.mem_cons_of_mem _ (dT (l:=l) h)
 | .it _ _ _ _ _ _::l,x,el,cs,h=>List.mem_cons_of_mem _ (dT (l:=l) h)
section
variable {c:Cx} {T:Tm} {G:GH} {Γ:c8} {ρ ρ':bc} {s s':SS} {cf:Cf} {ops:Array Oper} {i:Nat}
theorem Ok.ty {f:dw} (h:Ok c T G Γ ρ s) (hf:f∈s.ty):fx c.P c.Φ G Γ (f.den ρ):=h.q.ty _ (List.mem_map.2 ⟨f,hf,rfl⟩)
theorem Ok.own {o:SO} (h:Ok c T G Γ ρ s) (ho:o∈s.os):cY c.P c.Φ G Γ (o.den ρ):=h.q.own _ (List.mem_map.2 ⟨o,ho,rfl⟩)
theorem Ok.loc {b:Nat} {el:TypeId} {cs:List SC} (h:Ok c T G Γ ρ s) (hl:jk s.os b=some (el,cs)):G (ρ b).nn=some (.cells .loc el cs.length (aE ρ cs)):=by
 have:=(h.own (dT hl)).1
 rwa [show (aE ρ cs).length=cs.length by simp [aE]] at this
def Lo (c:Cx) (T:Tm) (G:GH) (Γ:c8) (ops:Array Oper) (i:Nat) (s:SS) (ρ:bc) (K:SV->SS->R):Prop :=
 fa c T G Γ s ρ fun ρ' s'=>∃v,(K v s').Ok/\aZ c.P ops c.n0 c.nt i T .e (z 0) G (v.den ρ')
theorem Lo.here {K:SV->SS->R} {v:SV} (hk:Ok c T G Γ ρ s) (h:(K v s).Ok) (hl:aZ c.P ops c.n0 c.nt i T .e (z 0) G (v.den ρ)):Lo c T G Γ ops i s ρ K:=fa.here hk ⟨v,h,hl⟩
theorem Lo.fr {K:SV->SS->R} {u:U} {v:SV} (hk:Ok c T G Γ (ρ.up s.nx u) (aC s)) (h:(K v (aC s)).Ok) (hl:aZ c.P ops c.n0 c.nt i T .e (z 0) G (v.den (ρ.up s.nx u))):Lo c T G Γ ops i s ρ K:=fa.mk (HM _ _ _) (Nat.le_succ _) hk ⟨v,h,hl⟩
theorem Lo.to {K:SV->SS->R} (hn:s'.nx=s.nx) (h:Lo c T G Γ ops i s' ρ K):Lo c T G Γ ops i s ρ K:=by
 obtain⟨ρ',s2,a,n,o,h⟩:=h
 exact⟨ρ',s2,by rw [<-hn]; exact a,by omega,o,h⟩
def eW (k:IntKind):Bool:=cD k .i64
theorem dU {k:IntKind} (h:eW k=true):k=.i64:=of_decide_eq_true h
def wQ (s:SS) (e:LE):Bool:=bq s (e.aW 9223372036854775808)&&bq s ((LE.k 9223372036854775807).sub e)
theorem wR {e:LE} (h:wQ s e=true) (hs:Sat ρ s):IntKind.i64.wrap (e.ev ρ)=e.ev ρ:=by
 unfold wQ at h
 rw [Bool.and_eq_true] at h
 have h1:=ax h.1 hs
 have h2:=ax h.2 hs
 rw [LE.aJ] at h1
 rw [LE.aw,LE.bp] at h2
 rw [IntKind.wrap_i64]
 omega
def KO (s:SS) (k:IntKind) (e:Option LE) (K:SV->SS->R):R:=match e with
 | some e=>bif eW k&&wQ s e then K (sc (.int k e)) s else fresh s fun x s=>K (sc (.int k (.a (.z x)))) s
 | none=>fresh s fun x s=>K (sc (.int k (.a (.z x)))) s
theorem RC (ρ:bc) (k:IntKind) (x:Nat) (z:Int) (h:ρ x=.z z):(sc (.int k (.a (.z x)))).den ρ=.int k z:=by
 show AV.int k ((LE.a (.z x)).ev ρ)=_
 rw [LE.a9]; show AV.int k (ρ x).zz=_; rw [h]; rfl
theorem mq {k:IntKind} {K:SV->SS->R} {r:Int} (h:(fresh s (fun x s=>K (sc (.int k (.a (.z x)))) s)).Ok) (hk:Ok c T G Γ ρ s) (hl:aZ c.P ops c.n0 c.nt i T .e (z 0) G (.int k r)):Lo c T G Γ ops i s ρ K:=by
 obtain⟨h1,h2,h3,h4⟩:=az h hk (.z r)
 exact Lo.fr h3 h1 (by rw [RC _ _ _ r h4]; exact hl)
theorem H3 {k:IntKind} {e:Option LE} {K:SV->SS->R} {r:Int} (h:(KO s k e K).Ok) (hk:Ok c T G Γ ρ s) (he:∀e',e=some e'->r=k.wrap (e'.ev ρ)) (hl:aZ c.P ops c.n0 c.nt i T .e (z 0) G (.int k r)):Lo c T G Γ ops i s ρ K:=by
 cases e with
 | none=>exact mq h hk hl
 | some e =>
   have h:((bif eW k&&wQ s e then K (sc (.int k e)) s else fresh s fun x s=>K (sc (.int k (.a (.z x)))) s)).Ok:=h
   cases hb:(eW k&&wQ s e) with
   | false=>rw [hb] at h; exact mq h hk hl
   | true =>
     rw [hb] at h
     rw [Bool.and_eq_true] at hb
     have:=dU hb.1
     subst this
     have hr:=he e rfl
     rw [wR hb.2 hk.sat] at hr
     subst hr
     exact Lo.here hk h hl
def cG (e:LE):Option Int:=bif e.ts.isEmpty then some e.c else none
theorem dA {e:LE} {k:Int} (h:cG e=some k) (ρ:bc):e.ev ρ=k:=by
 unfold cG at h
 cases hb:e.ts.isEmpty with
 | false=>rw [hb] at h; cases h
 | true=>rw [hb] at h; cases h; have:=List.isEmpty_iff.1 hb; unfold LE.ev; rw [this]; simp [nk]
def U9 (op:BinOp) (a b:LE):Option LE:=match op with
 | .add=>some (a.add b)
 | .sub=>some (a.sub b)
 | .mul=>match cG a with | some k=>some (b.ji k) | none=>(match cG b with | some k=>some (a.ji k) | none=>none)
 | _=>none
theorem H4 {op:BinOp} {a b e:LE} (h:U9 op a b=some e) (ρ:bc):e.ev ρ=U2 op (a.ev ρ) (b.ev ρ):=by
 cases op<;>first | (cases h; done) | skip
 · cases h; exact LE.gF ρ a b
 · cases h; exact LE.aw ρ a b
 · have h:(match cG a with | some k=>some (b.ji k) | none=>(match cG b with | some k=>some (a.ji k) | none=>none))=some e:=h
   cases ha:cG a with
   | some k=>rw [ha] at h; cases h; rw [LE.e9,dA ha ρ]; rfl
   | none =>
     rw [ha] at h
     cases hb:cG b with
     | some k=>rw [hb] at h; cases h; rw [LE.e9,dA hb ρ]; exact Int.mul_comm _ _
     | none=>rw [hb] at h; cases h
def KP (op:BinOp) (a b:LE):BE:=match op with
 | .lss=>.ge ((b.sub a).aW (-1))
 | .leq=>.ge (b.sub a)
 | .gtr=>.ge ((a.sub b).aW (-1))
 | .geq=>.ge (a.sub b)
 | .eql=>.eq (a.sub b)
 | _=>.ne (a.sub b)
theorem KQ {op:BinOp} (hr:lu op=true) (a b:LE) (ρ:bc):(KP op a b).ev ρ=KG op (a.ev ρ) (b.ev ρ):=by
 cases op<;>first | (cases hr; done) | skip
 all_goals simp only [KP,BE.ev,KG,LE.aJ,LE.aw]
 all_goals first
  | (rw [Bool.eq_iff_iff,decide_eq_true_eq,decide_eq_true_eq]; omega)
  | (rw [Bool.eq_iff_iff]; simp only [Bool.not_eq_true',decide_eq_true_eq,decide_eq_false_iff_not]; omega)
def RD (s:SS) (b:BE):BE:=match b with
 | .ge e=>(match cG e with | some k=>.k (!mh k) | none=>b)
 | .eq e=>(match cG e with | some k=>.k (kU k) | none=>b)
 | .ne e=>(match cG e with | some k=>.k (!kU k) | none=>b)
 | b=>b
theorem H5 (b:BE) (ρ:bc):(RD s b).ev ρ=b.ev ρ:=by
 cases b with
 | ge e =>
   show ((match cG e with | some k=>BE.k (!mh k) | none=>.ge e)).ev ρ=_
   cases h:cG e with
   | none=>rfl
   | some k =>
     simp only [BE.ev,dA h ρ]
     cases hn:mh k with
     | true=>have:=Ow hn; symm; exact decide_eq_false (by omega)
     | false=>have:=qc hn; symm; exact decide_eq_true (by omega)
 | eq e =>
   show ((match cG e with | some k=>BE.k (kU k) | none=>.eq e)).ev ρ=_
   cases h:cG e with
   | none=>rfl
   | some k =>
     simp only [BE.ev,dA h ρ]
     cases hn:kU k with
     | true=>have:=qd hn; symm; exact decide_eq_true this
     | false=>have:=wG hn; symm; exact decide_eq_false this
 | ne e =>
   show ((match cG e with | some k=>BE.k (!kU k) | none=>.ne e)).ev ρ=_
   cases h:cG e with
   | none=>rfl
   | some k =>
     simp only [BE.ev,dA h ρ]
     cases hn:kU k with
     | true=>have:=qd hn; rw [decide_eq_true this]
     | false=>have:=wG hn; rw [decide_eq_false this]
 | _=>rfl
def strOf:SC->Option (Option (Nat × Nat))
 | .str _=>some none
 | .lD l m=>bif Nat.ble l jJ then some (some (l,m)) else none
 | _=>none
theorem ew {x:SC} {q:Option (Nat × Nat)} (h:strOf x=some q) (ρ:bc):∃l m,x.den ρ=.str l m/\∀p,q=some p->p=(l,m):=by
 cases x<;>first | (cases h; done) | skip
 · cases h; exact⟨_,_,rfl,fun p hp=>(by cases hp)⟩
 · rename_i l m
   have h:(bif Nat.ble l jJ then some (some (l,m)) else none)=some q:=h
   cases hb:Nat.ble l jJ with
   | false=>rw [hb] at h; cases h
   | true=>rw [hb] at h; cases h; exact⟨_,_,rfl,fun p hp=>(Option.some.inj hp).symm⟩
theorem j5 {x:SC} (h:(strOf x).isSome=true) {ρ:bc} {l m:Nat} (e:x.den ρ=.str l m):l<=jJ:=by
 cases x<;>first | (cases h; done) | skip
 · cases e; exact U.Ay _
 · cases e
   have h:(bif Nat.ble l jJ then some (some (l,m)) else none).isSome=true:=h
   cases hb:Nat.ble l jJ with
   | false=>rw [hb] at h; cases h
   | true=>exact aL hb
def OJ (s:SS) (x:SC) (K:BE->SS->R):R:=match x with
 | .aB=>K (.k true) s | .dq=>K (.k true) s | .aV=>K (.k true) s
 | .bW _ _=>K (.k false) s
 | .ref y=>(match nF s.ty y with
   | some _=>K (.k false) s
   | none=>match wP s.ty y with
     | some _=>K (.k false) s
     | none=>match oi s.ty y with
       | some _=>fresh s fun b s=>K (.v b) s
       | none=>.bad 20 s)
 | _=>.bad 21 s
def wS:TypeDesc->SC->Bool
 | .slice _,.aB=>true
 | .pointer _,.dq=>true
 | .map _ _,.aV=>true
 | _,_=>false
def tf (s:SS):TypeDesc->SC->Bool
 | .slice _,.aB=>true
 | .slice _,.ref y=>(oi s.ty y).isSome
 | .pointer _,.dq=>true
 | .pointer _,.bW _ _=>true
 | .pointer _,.ref y=>(nF s.ty y).isSome
 | .map _ _,.aV=>true
 | .map _ _,.ref y=>(wP s.ty y).isSome
 | _,_=>false
theorem RE {y cc g:Nat} (hk:Ok c T G Γ ρ s) (h:oi s.ty y=some (cc,g)):XB (ρ y).vv:=by
 rcases (hk.ty (ia h)).form with ⟨h,_⟩ | ⟨b,o,cp,h⟩
 · exact .inl h
 · exact .inr ⟨b,o,_,cp,h⟩
theorem tg {y cc g:Nat} (hk:Ok c T G Γ ρ s) (h:nF s.ty y=some (cc,g)):∃b,(ρ y).vv=.bW b 0:=by
 obtain⟨b,L,h1,_⟩:=hk.ty (iM h)
 exact⟨b,h1⟩
theorem MC {y cc g:Nat} (hk:Ok c T G Γ ρ s) (h:wP s.ty y=some (cc,g)):∃b,(ρ y).vv=.dG b:=by
 obtain⟨b,h1,_⟩:=hk.ty (iN h)
 exact⟨b,h1⟩
theorem y5 {dd:TypeDesc} {x y:SC} (hk:Ok c T G Γ ρ s) (h:(tf s dd x&&wS dd y)=true):BX dd (x.den ρ) (y.den ρ):=by
 rw [Bool.and_eq_true] at h
 obtain⟨h1,h2⟩:=h
 cases dd<;>first | (cases h2; done) | skip
 · cases y<;>first | (cases h2; done) | skip
   refine⟨?_,rfl⟩
   cases x<;>first | (cases h1; done) | skip
   · rename_i q
     obtain⟨p,hp⟩:=Option.isSome_iff_exists.1 (show (nF s.ty q).isSome=true from h1)
     obtain⟨b,hb⟩:=tg (cc:=p.1) (g:=p.2) hk hp
     exact .inr ⟨b,0,hb⟩
   · exact .inl rfl
   · exact .inr ⟨_,_,rfl⟩
 · cases y<;>first | (cases h2; done) | skip
   refine⟨?_,rfl⟩
   cases x<;>first | (cases h1; done) | skip
   · rename_i q
     obtain⟨p,hp⟩:=Option.isSome_iff_exists.1 (show (oi s.ty q).isSome=true from h1)
     exact RE (cc:=p.1) (g:=p.2) hk hp
   · exact .inl rfl
 · cases y<;>first | (cases h2; done) | skip
   refine⟨?_,rfl⟩
   cases x<;>first | (cases h1; done) | skip
   · rename_i q
     obtain⟨p,hp⟩:=Option.isSome_iff_exists.1 (show (wP s.ty q).isSome=true from h1)
     obtain⟨b,hb⟩:=MC (cc:=p.1) (g:=p.2) hk hp
     exact .inr ⟨b,hb⟩
   · exact .inl rfl
theorem B3 {x:SC} {K:BE->SS->R} (h:(OJ s x K).Ok) (hk:Ok c T G Γ ρ s):fa c T G Γ s ρ fun ρ' s'=>∃b,(K b s').Ok/\b.ev ρ'=mm (x.den ρ):=by
 cases x<;>first | (cases h; done) | skip
 case ref y =>
  have h:((match nF s.ty y with
   | some _=>K (.k false) s
   | none=>match wP s.ty y with
     | some _=>K (.k false) s
     | none=>match oi s.ty y with
       | some _=>fresh s fun b s=>K (.v b) s
       | none=>.bad 20 s)).Ok:=h
  cases hp:nF s.ty y with
  | some p =>
    rw [hp] at h
    obtain⟨b,hb⟩:=tg (cc:=p.1) (g:=p.2) hk hp
    exact fa.here hk ⟨_,h,by simp only [BE.ev,SC.den,hb]; rfl⟩
  | none =>
    rw [hp] at h
    cases hm:wP s.ty y with
    | some p =>
      rw [hm] at h
      obtain⟨b,hb⟩:=MC (cc:=p.1) (g:=p.2) hk hm
      exact fa.here hk ⟨_,h,by simp only [BE.ev,SC.den,hb]; rfl⟩
    | none =>
      rw [hm] at h
      cases hs:oi s.ty y with
      | none=>rw [hs] at h; cases h
      | some p =>
        rw [hs] at h
        obtain⟨h1,h2,h3,h4⟩:=az h hk (.b (mm (SC.den ρ (.ref y))))
        exact fa.mk h2 (Nat.le_succ _) h3 ⟨_,h1,by simp only [BE.ev]; rw [h4]; rfl⟩
 all_goals exact fa.here hk ⟨_,h,rfl⟩
def Va (a b:SC) (op:BinOp):Option BE:=match a,b,op with
 | .str y,.lD 0 _,.eql=>some (.eq (.a (.sl y)))
 | .str y,.lD 0 _,.neq=>some (.ne (.a (.sl y)))
 | _,_,_=>none
theorem vg (l m m':Nat):aO l m 0 m'=decide ((l:Int)=0):=by
 cases l with
 | zero =>
   have h:∀x,iI 0 x=0:=fun x=>by show x%1=0; exact Nat.mod_one x
   unfold aO
   rw [h,h]; rfl
 | succ l =>
   have:Nat.beq (l+1) 0=false:=rfl
   unfold aO
   rw [this]
   simp
   omega
def Vb (cf:Cf) (op:BinOp) (t:TypeId) (x y:SV) (s:SS) (K:SV->SS->R):R:=match x,y with
 | .v false [.int k a],.v false [.int k' b] =>
   bif cD k k'&&lu op then K (sc (.bool (RD s (KP op a b)))) s
   else bif cD k k'&&mX op then KO s k (U9 op a b) K
   else (match op with
    | .quo=>bif cD k k' then (match cG b with
      | some q=>bif kU q then .bad 23 s else bif eW k&&(!mh q&&(bq s a&&(wQ s a&&a.lt s.nx))) then fresh s fun x s=>K (sc (.int k (.a (.n x)))) (aP (aP s (a.sub ((LE.a (.n x)).ji q))) ((((LE.a (.n x)).ji q).aW (q-1)).sub a)) else KO s k none K
      | none=>.bad 24 s) else .bad 22 s
    | .and=>bif cD k k' then KO s k none K else .bad 22 s
    | .or=>bif cD k k' then KO s k none K else .bad 22 s
    | .xor=>bif cD k k' then KO s k none K else .bad 22 s
    | .shl=>bif bq s b then KO s k none K else .bad 25 s
    | .shr=>bif bq s b then KO s k none K else .bad 25 s
    | _=>.bad 22 s)
 | .v false [a],.v false [b]=>(match strOf a,strOf b with
   | some p,some q=>bif lu op then (match p,q,op with
     | some p,some q,.eql=>K (sc (.bool (.k (aO p.1 p.2 q.1 q.2)))) s
     | some p,some q,.neq=>K (sc (.bool (.k (!aO p.1 p.2 q.1 q.2)))) s
     | _,_,_=>(match Va a b op with
       | some be=>K (sc (.bool (RD s be))) s
       | none=>fresh s fun x s=>K (sc (.bool (.v x))) s)) else .bad 26 s
   | _,_=>match cf.P.underlying t with
     | some dd=>bif tf s dd a&&wS dd b then (match op with
       | .eql=>OJ s a fun r s=>K (sc (.bool r)) s
       | .neq=>OJ s a fun r s=>K (sc (.bool r.not)) s
       | _=>.bad 27 s) else .bad 28 s
     | none=>.bad 29 s)
 | _,_=>.bad 30 s
theorem OK {op:BinOp} {t yt:TypeId} {ox oy:Operand} {x y:SV} {K:SV->SS->R} (ho:(ab ops i).op=.binOp op t ox oy yt) (hg:(ab ops i).guard=none) (hP:cf.P=c.P) (h:(Vb cf op t x y s K).Ok) (hk:Ok c T G Γ ρ s) (hx:ba c.nt T ox (x.den ρ)) (hy:ba c.nt T oy (y.den ρ)):Lo c T G Γ ops i s ρ K:=by
 unfold Vb at h
 split at h
 · rename_i k a k' b
   have hx:ba c.nt T ox (.int k (a.ev ρ)):=hx
   have hy:ba c.nt T oy (.int k' (b.ev ρ)):=hy
   cases hr:(cD k k'&&lu op) with
   | true =>
     rw [hr] at h
     rw [Bool.and_eq_true] at hr
     have hkk:k=k':=of_decide_eq_true hr.1
     subst hkk
     refine Lo.here hk h ?_
     show aZ _ _ _ _ _ _ _ _ _ (.bool ((RD s (KP op a b)).ev ρ))
     rw [H5,KQ hr.2]
     exact aZ.U5 hg ho hr.2 hx hy
   | false =>
     rw [hr] at h
     cases ha:(cD k k'&&mX op) with
     | true =>
       rw [ha] at h
       rw [Bool.and_eq_true] at ha
       have hkk:k=k':=of_decide_eq_true ha.1
       subst hkk
       exact H3 h hk (fun e' he=>by rw [H4 he ρ]) (aZ.XC hg ho ha.2 hx hy)
     | false =>
       rw [ha] at h
       simp only [cond_false] at h
       split at h
       · cases hkk:cD k k' with
         | false=>rw [hkk] at h; cases h
         | true =>
           rw [hkk] at h
           have hkk:k=k':=of_decide_eq_true hkk
           subst hkk
           simp only [cond_true] at h
           cases hc:cG b with
           | none=>rw [hc] at h; cases h
           | some q =>
             rw [hc] at h
             simp only at h
             cases hz:kU q with
             | true=>rw [hz] at h; cases h
             | false =>
               rw [hz] at h
               simp only [cond_false] at h
               have hq:=wG hz
               rw [dA hc ρ] at hy
               obtain⟨r,hr1,_,hl⟩:=aZ.RB hg ho (.inl rfl) hq hx hy (P:=c.P) (n0:=c.n0) (hp:=.e) (nx:=z 0) (G:=G)
               have hr1:=hr1 rfl
               cases hb:(eW k&&(!mh q&&(bq s a&&(wQ s a&&a.lt s.nx)))) with
               | false=>rw [hb] at h; exact mq h hk hl
               | true =>
                 rw [hb] at h
                 simp only [cond_true] at h
                 simp only [Bool.and_eq_true,Bool.not_eq_true'] at hb
                 obtain⟨hb1,hb2,hb3,hb4,hb5⟩:=hb
                 have:=dU hb1
                 subst this
                 have hqp:=qc hb2
                 have n9:=ax hb3 hk.sat
                 have hpos:0<q:=by omega
                 have hd1:(a.ev ρ).tdiv q=a.ev ρ/q:=Int.tdiv_eq_ediv_of_nonneg n9
                 have hd0:0<=a.ev ρ/q:=Int.ediv_nonneg n9 hqp
                 have hd2:a.ev ρ/q<=a.ev ρ:=Int.ediv_le_self _ n9
                 have hfa:=wR hb4 hk.sat
                 have hfit:IntKind.i64.wrap (a.ev ρ/q)=a.ev ρ/q:=by
                  rw [IntKind.wrap_i64] at hfa ⊢
                  omega
                 rw [hr1,hd1,hfit] at hl
                 obtain⟨h1,h2,h3,h4⟩:=az h hk (.n (a.ev ρ/q).toNat)
                 have hx1:(LE.a (.n s.nx)).ev (ρ.up s.nx (.n (a.ev ρ/q).toNat))=a.ev ρ/q:=by
                  rw [LE.a9]; show ((ρ.up s.nx (.n (a.ev ρ/q).toNat) s.nx).nn:Int)=_
                  rw [h4]; show (((a.ev ρ/q).toNat:Nat):Int)=_; omega
                 have hae:=LE.bP h2 hb5
                 have e1:=Int.mul_ediv_add_emod (a.ev ρ) q
                 have e2:=Int.emod_nonneg (a.ev ρ) hq
                 have e3:=Int.emod_lt_of_pos (a.ev ρ) hpos
                 refine fa.mk h2 (Nat.le_succ _) ((h3.aP ?_).aP ?_) ⟨_,h1,?_⟩
                 · rw [LE.aw,LE.e9,hx1,hae]; omega
                 · rw [LE.aw,LE.aJ,LE.e9,hx1,hae]; omega
                 · show aZ _ _ _ _ _ _ _ _ _ (.int .i64 ((LE.a (.n s.nx)).ev _))
                   rw [hx1]; exact hl
       · cases hkk:cD k k' with
         | false=>rw [hkk] at h; cases h
         | true =>
           rw [hkk] at h
           have hkk:k=k':=of_decide_eq_true hkk
           subst hkk
           obtain⟨r,hl⟩:=aZ.OC hg ho (.inl rfl) hx hy (P:=c.P) (n0:=c.n0) (hp:=.e) (nx:=z 0) (G:=G)
           exact mq h hk hl
       · cases hkk:cD k k' with
         | false=>rw [hkk] at h; cases h
         | true =>
           rw [hkk] at h
           have hkk:k=k':=of_decide_eq_true hkk
           subst hkk
           obtain⟨r,hl⟩:=aZ.OC hg ho (.inr (.inl rfl)) hx hy (P:=c.P) (n0:=c.n0) (hp:=.e) (nx:=z 0) (G:=G)
           exact mq h hk hl
       · cases hkk:cD k k' with
         | false=>rw [hkk] at h; cases h
         | true =>
           rw [hkk] at h
           have hkk:k=k':=of_decide_eq_true hkk
           subst hkk
           obtain⟨r,hl⟩:=aZ.OC hg ho (.inr (.inr rfl)) hx hy (P:=c.P) (n0:=c.n0) (hp:=.e) (nx:=z 0) (G:=G)
           exact mq h hk hl
       · cases hb:bq s b with
         | false=>rw [hb] at h; cases h
         | true =>
           rw [hb] at h
           obtain⟨r,hl⟩:=aZ.XD hg ho (.inl rfl) (ax hb hk.sat) hx hy (P:=c.P) (n0:=c.n0) (hp:=.e) (nx:=z 0) (G:=G)
           exact mq h hk hl
       · cases hb:bq s b with
         | false=>rw [hb] at h; cases h
         | true =>
           rw [hb] at h
           obtain⟨r,hl⟩:=aZ.XD hg ho (.inr rfl) (ax hb hk.sat) hx hy (P:=c.P) (n0:=c.n0) (hp:=.e) (nx:=z 0) (G:=G)
           exact mq h hk hl
       · cases h
 · rename_i a b hne
   have hx:ba c.nt T ox (a.den ρ):=hx
   have hy:ba c.nt T oy (b.den ρ):=hy
   split at h
   · rename_i p q hp hq
     obtain⟨l,m,e1,p1⟩:=ew hp ρ
     obtain⟨l',m',e2,p2⟩:=ew hq ρ
     rw [e1] at hx
     rw [e2] at hy
     cases hr:lu op with
     | false=>rw [hr] at h; cases h
     | true =>
       rw [hr] at h
       simp only [cond_true] at h
       obtain⟨b',q1,q2,hl⟩:=aZ.U6 hg ho hr hx hy (P:=c.P) (n0:=c.n0) (hp:=.e) (nx:=z 0) (G:=G)
       have fin:((fresh s fun x s=>K (sc (.bool (.v x))) s)).Ok->Lo c T G Γ ops i s ρ K:=fun h=>by
        obtain⟨h1,h2,h3,h4⟩:=az h hk (.b b')
        refine Lo.fr h3 h1 ?_
        show aZ _ _ _ _ _ _ _ _ _ (.bool ((BE.v s.nx).ev _))
        simp only [BE.ev]
        rw [h4]
        exact hl
       split at h
       · rename_i p q
         have:=p1 p rfl; subst this
         have:=p2 q rfl; subst this
         refine Lo.here hk h ?_
         have:=q1 rfl
         subst this
         exact hl
       · rename_i p q
         have:=p1 p rfl; subst this
         have:=p2 q rfl; subst this
         refine Lo.here hk h ?_
         have:=q2 rfl
         subst this
         exact hl
       · cases he:Va a b op with
         | none=>rw [he] at h; exact fin h
         | some be =>
           rw [he] at h
           refine Lo.here hk h ?_
           show aZ _ _ _ _ _ _ _ _ _ (.bool ((RD s be).ev ρ))
           rw [H5]
           have e1:a.den ρ=.str l m:=e1
           have e2:b.den ρ=.str l' m':=e2
           unfold Va at he
           split at he
           · cases he
             simp only [SC.den,AV.str.injEq] at e1 e2
             have:=q1 rfl
             rw [<-e2.1,<-e1.1,vg] at this
             subst this
             simp only [BE.ev,LE.a9]
             exact hl
           · cases he
             simp only [SC.den,AV.str.injEq] at e1 e2
             have:=q2 rfl
             rw [<-e2.1,<-e1.1,vg] at this
             subst this
             simp only [BE.ev,LE.a9]
             exact hl
           · cases he
   · split at h
     · rename_i dd hu
       rw [hP] at hu
       cases hf:(tf s dd a&&wS dd b) with
       | false=>rw [hf] at h; cases h
       | true =>
         rw [hf] at h
         simp only [cond_true] at h
         have hn:=y5 hk hf
         split at h
         · refine (B3 h hk).mono fun ρ' s' a1 n1 o1 hh=>?_
           obtain⟨r,g1,g2⟩:=hh
           refine⟨_,g1,?_⟩
           show aZ _ _ _ _ _ _ _ _ _ (.bool (r.ev ρ'))
           rw [g2]
           have:=aZ.Mu (neq:=false) hg ho hu hx hy hn (P:=c.P) (n0:=c.n0) (hp:=.e) (nx:=z 0) (G:=G)
           simpa using this
         · refine (B3 h hk).mono fun ρ' s' a1 n1 o1 hh=>?_
           obtain⟨r,g1,g2⟩:=hh
           refine⟨_,g1,?_⟩
           show aZ _ _ _ _ _ _ _ _ _ (.bool (r.not.ev ρ'))
           rw [BE.AB,g2]
           have:=aZ.Mu (neq:=true) hg ho hu hx hy hn (P:=c.P) (n0:=c.n0) (hp:=.e) (nx:=z 0) (G:=G)
           simpa using this
         · cases h
     · cases h
 · cases h
end
end Go.Rd
namespace Go.Rd
open Go.aQ Go.RowKit Go.Rt
section
variable {c:Cx} {T:Tm} {G:GH} {Γ:c8} {ρ ρ':bc} {s s':SS} {cf:Cf} {ops:Array Oper} {i:Nat}
theorem fN {t:Nat} {v:SV} (h:KJ s (.tmp t)=some v) (hq:Q c T G Γ (s.den ρ)):T.at t=v.den ρ:=hq.at_ _ _ (fM h)
def B4 (s:SS) (y:Nat) (e:LE):Bool:=(oi s.ty y).isSome&&(bq s e&&bq s (((LE.a (.len y)).sub e).aW (-1)))
theorem qh {y:Nat} {e:LE} (h:B4 s y e=true) (hk:Ok c T G Γ ρ s):∃cc g b o cp,oi s.ty y=some (cc,g)/\(ρ y).vv=.di b o (ρ y).ns.length cp/\0<=e.ev ρ/\(e.ev ρ).toNat<(ρ y).ns.length/\fx c.P c.Φ G Γ (.sl (ρ y).vv cc (ig ρ g) (ρ y).ns):=by
 unfold B4 at h
 simp only [Bool.and_eq_true] at h
 obtain⟨h1,h2,h3⟩:=h
 obtain⟨p,hp⟩:=Option.isSome_iff_exists.1 h1
 have ht:=hk.ty (ia (c:=p.1) (g:=p.2) hp)
 have e1:=ax h2 hk.sat
 have e2:=ax h3 hk.sat
 rw [LE.aJ,LE.aw,LE.a9] at e2
 have e2:0<=((ρ y).ns.length:Int)-e.ev ρ+-1:=e2
 rcases ht.form with ⟨h,h0⟩ | ⟨b,o,cp,h⟩
 · have h0:(ρ y).ns=[]:=h0
   rw [h0] at e2; simp at e2; omega
 · exact⟨p.1,p.2,b,o,cp,hp,h,e1,by omega,ht⟩
theorem kW {b o l cp k:Nat} {v:AV} (h:v=.di b o l cp):n7 v k=.bW b (o+k):=by subst h; rfl
def RF (cf:Cf) (t:TypeId) (x:SV) (f:Nat) (s:SS) (K:SV->SS->R):R:=match er cf.P t f with
 | some (off,ft)=>bif Nat.beq (ae cf.P ft) 0 then .bad 40 s else (match x with
   | .v false [.bW b o]=>K (sc (.bW b (o+off))) s
   | .v false [.og y e sz o]=>bif B4 s y e then K (sc (.og y e sz (o+off))) s else .bad 41 s
   | .v false [.ref y]=>(match nF s.ty y with | some _=>K (sc (.tM y off)) s | none=>.bad 42 s)
   | .v false [.tM y o]=>(match nF s.ty y with | some _=>K (sc (.tM y (o+off))) s | none=>.bad 42 s)
   | _=>.bad 43 s)
 | none=>.bad 44 s
theorem AK {t:TypeId} {x f:Nat} {v:SV} {K:SV->SS->R} (ho:(ab ops i).op=.fieldAddr t (.tmp x) f) (hg:(ab ops i).guard=none) (hP:cf.P=c.P) (h:(RF cf t v f s K).Ok) (hk:Ok c T G Γ ρ s) (hx:T.at x=v.den ρ):Lo c T G Γ ops i s ρ K:=by
 unfold RF at h
 rw [hP] at h
 cases hf:er c.P t f with
 | none=>rw [hf] at h; cases h
 | some p =>
   obtain⟨off,ft⟩:=p
   rw [hf] at h
   simp only at h
   cases hz:Nat.beq (ae c.P ft) 0 with
   | true=>rw [hz] at h; cases h
   | false =>
     rw [hz] at h
     simp only [cond_false] at h
     split at h
     · exact Lo.here hk h (aZ.field hg ho hx hf hz)
     · rename_i y e sz o
       cases hi:B4 s y e with
       | false=>rw [hi] at h; cases h
       | true =>
         rw [hi] at h
         obtain⟨cc,g,b,o',cp,_,h1,_⟩:=qh hi hk
         have hx:T.at x=.bW b (o'+((e.ev ρ).toNat*sz+o)):=hx.trans (kW h1)
         refine Lo.here hk h ?_
         have:=aZ.field hg ho hx hf hz (P:=c.P) (n0:=c.n0) (nt:=c.nt) (hp:=.e) (nx:=z 0) (G:=G)
         show aZ _ _ _ _ _ _ _ _ _ (n7 (ρ y).vv ((e.ev ρ).toNat*sz+(o+off)))
         rw [kW h1,show o'+((e.ev ρ).toNat*sz+(o+off))=o'+((e.ev ρ).toNat*sz+o)+off by omega]
         exact this
     · rename_i y
       cases hp:nF s.ty y with
       | none=>rw [hp] at h; cases h
       | some q =>
         rw [hp] at h
         obtain⟨b,hb⟩:=tg (cc:=q.1) (g:=q.2) hk hp
         have hx:T.at x=.bW b 0:=hx.trans hb
         refine Lo.here hk h ?_
         show aZ _ _ _ _ _ _ _ _ _ (lE (ρ y).vv off)
         rw [hb]
         exact aZ.field hg ho hx hf hz
     · rename_i y o
       cases hp:nF s.ty y with
       | none=>rw [hp] at h; cases h
       | some q =>
         rw [hp] at h
         obtain⟨b,hb⟩:=tg (cc:=q.1) (g:=q.2) hk hp
         have hx:T.at x=.bW b (0+o):=hx.trans (by show lE (ρ y).vv o=_; rw [hb]; rfl)
         refine Lo.here hk h ?_
         show aZ _ _ _ _ _ _ _ _ _ (lE (ρ y).vv (o+off))
         rw [hb]
         have:=aZ.field hg ho hx hf hz (P:=c.P) (n0:=c.n0) (nt:=c.nt) (hp:=.e) (nx:=z 0) (G:=G)
         show aZ _ _ _ _ _ _ _ _ _ (.bW b (0+(o+off)))
         rw [<-Nat.add_assoc]
         exact this
     · cases h
def RG (x:SV) (s:SS) (K:SV->SS->R):R:=match x with
 | .v false [.bW b o]=>K x s
 | .v false [.og y e sz o]=>bif B4 s y e then K x s else .bad 41 s
 | .v false [.ref y]=>(match nF s.ty y with | some _=>K x s | none=>.bad 42 s)
 | .v false [.tM y o]=>(match nF s.ty y with | some _=>K x s | none=>.bad 42 s)
 | _=>.bad 45 s
theorem AL {x:Nat} {v:SV} {K:SV->SS->R} (ho:(ab ops i).op=.nilCheck (.tmp x)) (hg:(ab ops i).guard=none) (h:(RG v s K).Ok) (hk:Ok c T G Γ ρ s) (hx:T.at x=v.den ρ):Lo c T G Γ ops i s ρ K:=by
 unfold RG at h
 split at h
 · exact Lo.here hk h (aZ.nil hg ho hx)
 · rename_i y e sz o
   cases hi:B4 s y e with
   | false=>rw [hi] at h; cases h
   | true =>
     rw [hi] at h
     obtain⟨cc,g,b,o',cp,_,h1,_⟩:=qh hi hk
     have e1:(SV.v false [.og y e sz o]).den ρ=.bW b (o'+((e.ev ρ).toNat*sz+o)):=kW h1
     exact Lo.here hk h (by rw [e1]; exact aZ.nil hg ho (hx.trans e1))
 · rename_i y
   cases hp:nF s.ty y with
   | none=>rw [hp] at h; cases h
   | some q =>
     rw [hp] at h
     obtain⟨b,hb⟩:=tg (cc:=q.1) (g:=q.2) hk hp
     have e1:(SV.v false [.ref y]).den ρ=.bW b 0:=hb
     exact Lo.here hk h (by rw [e1]; exact aZ.nil hg ho (hx.trans e1))
 · rename_i y o
   cases hp:nF s.ty y with
   | none=>rw [hp] at h; cases h
   | some q =>
     rw [hp] at h
     obtain⟨b,hb⟩:=tg (cc:=q.1) (g:=q.2) hk hp
     have e1:(SV.v false [.tM y o]).den ρ=.bW b (0+o):=by show lE (ρ y).vv o=_; rw [hb]; rfl
     exact Lo.here hk h (by rw [e1]; exact aZ.nil hg ho (hx.trans e1))
 · cases h
def RH (cf:Cf) (t:TypeId) (x:SV) (e:SV) (s:SS) (K:SV->SS->R):R:=match x,e with
 | .v false [.ref y],.v false [.int kd e]=>(match oi s.ty y,cf.P.underlying t with
   | some (cc,g),some (.slice el)=>bif Nat.beq el (cf.Φ.ty cc)&&((cf.P.info? el).isSome&&B4 s y e) then K (sc (.og y e (ae cf.P el) 0)) s else .bad 46 s
   | _,_=>.bad 47 s)
 | .v false [.bW b o],.v false [.int kd e]=>(match cf.P.underlying t,cG e with
   | some (.array n el),some (.ofNat k)=>bif (cf.P.info? el).isSome&&Nat.blt k n then K (sc (.bW b (o+k*ae cf.P el))) s else .bad 48 s
   | _,_=>.bad 49 s)
 | _,_=>.bad 50 s
theorem aZ.H6 {P:Program} {n0 nt:Nat} {hp:Tr AO} {nx:Pz} {t e:TypeId} {x b o j n:Nat} {y:Operand} {kd:IntKind} (hg:(ab ops i).guard=none) (ho:(ab ops i).op=.indexAddr t (.tmp x) y) (hx:T.at x=.bW b o) (hy:ba nt T y (.int kd (.ofNat j))) (hu:P.underlying t=some (.array n e))
  (hi:(P.info? e).isSome=true) (hlt:j<n):aZ P ops n0 nt i T hp nx G (.bW b (o+j*ae P e)):=by
 refine bQ hg fun B w0 ι a w hs=>?_
 obtain⟨k,hk⟩:=Option.isSome_iff_exists.1 hi
 simp only [execOp,ho]
 rw [jg hs x hx,ba.at hy hs,dN]
 simp only [aj,Sem.run_bind]
 rw [uI hu ⟨k,hk⟩ hlt]
 simp
theorem aZ.H7 {P:Program} {n0 nt:Nat} {hp:Tr AO} {nx:Pz} {t e:TypeId} {x b o len cap j n:Nat} {y:Operand} {kd:IntKind} (hg:(ab ops i).guard=none) (ho:(ab ops i).op=.indexAddr t (.tmp x) y) (hx:T.at x=.di b o len cap) (hy:ba nt T y (.int kd (.ofNat j))) (hu:P.underlying t=some (.slice e))
  (hi:(P.info? e).isSome=true) (hn:ae P e=n) (hlt:j<len):aZ P ops n0 nt i T hp nx G (.bW b (o+j*n)):=by
 refine bQ hg fun B w0 ι a w hs=>?_
 obtain⟨k,hk⟩:=Option.isSome_iff_exists.1 hi
 simp only [execOp,ho]
 rw [jg hs x hx,ba.at hy hs,dN]
 simp only [aj,Sem.run_bind]
 rw [lO (by omega),pR hu ⟨k,hk⟩ hlt,hn]
 simp
theorem AM {t:TypeId} {x:Nat} {y:Operand} {v u:SV} {K:SV->SS->R} (ho:(ab ops i).op=.indexAddr t (.tmp x) y) (hg:(ab ops i).guard=none) (hP:cf.P=c.P) (hΦ:cf.Φ=c.Φ) (h:(RH cf t v u s K).Ok) (hk:Ok c T G Γ ρ s) (hx:T.at x=v.den ρ) (hy:ba c.nt T y (u.den ρ)):Lo c T G Γ ops i s ρ K:=by
 unfold RH at h
 rw [hP,hΦ] at h
 split at h
 · rename_i y kd e
   split at h
   · rename_i cc g el hf hu
     cases hb:(Nat.beq el (c.Φ.ty cc)&&((c.P.info? el).isSome&&B4 s y e)) with
     | false=>rw [hb] at h; cases h
     | true =>
       rw [hb] at h
       simp only [Bool.and_eq_true] at hb
       obtain⟨h1,h2,h3⟩:=hb
       obtain⟨cc',g',b,o,cp,q1,q2,q3,q4,q5⟩:=qh h3 hk
       refine Lo.here hk h ?_
       show aZ _ _ _ _ _ _ _ _ _ (n7 (ρ y).vv ((e.ev ρ).toNat*ae c.P el+0))
       rw [kW q2,Nat.add_zero]
       refine aZ.H7 hg ho (hx.trans q2) ?_ hu h2 rfl q4 (kd:=kd)
       have:(SV.v false [.int kd e]).den ρ=.int kd (.ofNat (e.ev ρ).toNat):=by show AV.int kd (e.ev ρ)=_; congr 1; exact (Int.toNat_of_nonneg q3).symm
       rw [<-this]; exact hy
   · cases h
 · rename_i b o kd e
   split at h
   · rename_i n el k hu hc
     cases hb:((c.P.info? el).isSome&&Nat.blt k n) with
     | false=>rw [hb] at h; cases h
     | true =>
       rw [hb] at h
       rw [Bool.and_eq_true] at hb
       refine Lo.here hk h ?_
       refine aZ.H6 hg ho hx ?_ hu hb.1 (au hb.2) (kd:=kd)
       have:(SV.v false [.int kd e]).den ρ=.int kd (.ofNat k):=by show AV.int kd (e.ev ρ)=_; rw [dA hc ρ]
       rw [<-this]; exact hy
   · cases h
 · cases h
def y6:List (Nat × LE × LE)->Nat->LE->Option LE
 | [],_,_=>none
 | p::l,y,e=>bif Nat.beq p.1 y&&p.2.1.same e then some p.2.2 else y6 l y e
theorem rr:∀{l:List (Nat × LE × LE)} {y:Nat} {e w:LE},y6 l y e=some w->∃e',(y,e',w)∈l/\∀ρ,e'.ev ρ=e.ev ρ
 | [],_,_,_,h=>by cases h
 | p::l,y,e,w,h=>by
   have h:(bif Nat.beq p.1 y&&p.2.1.same e then some p.2.2 else y6 l y e)=some w:=h
   cases hb:(Nat.beq p.1 y&&p.2.1.same e) with
   | true =>
     rw [hb] at h; cases h
     rw [Bool.and_eq_true] at hb
     have:=Nat.eq_of_beq_eq_true hb.1; subst this
     exact⟨p.2.1,List.mem_cons_self ..,LE.bj hb.2⟩
   | false=>rw [hb] at h; obtain⟨e',h1,h2⟩:=rr h; exact⟨e',List.mem_cons_of_mem _ h1,h2⟩
def wT (s:SS) (y:Nat) (e:LE):Option LE:=match cG e with
 | some k=>bif kU k then some (.k 0) else y6 s.pw y e
 | none=>y6 s.pw y e
theorem wU {y:Nat} {e w:LE} (h:wT s y e=some w) (hs:Sat ρ s):(((ρ y).ns.take (e.ev ρ).toNat).sum:Int)+e.ev ρ=w.ev ρ:=by
 have key:y6 s.pw y e=some w->(((ρ y).ns.take (e.ev ρ).toNat).sum:Int)+e.ev ρ=w.ev ρ:=fun h=>by
  obtain⟨e',h1,h2⟩:=rr h
  have:=(hs.pw _ h1).2
  have this:((((ρ y).ns.take (e'.ev ρ).toNat).sum:Nat):Int)+e'.ev ρ=w.ev ρ:=this
  rw [h2 ρ] at this
  exact this
 unfold wT at h
 cases hc:cG e with
 | none=>rw [hc] at h; exact key h
 | some k =>
   rw [hc] at h
   simp only at h
   cases hz:kU k with
   | false=>rw [hz] at h; exact key h
   | true =>
     rw [hz] at h; cases h
     have:=dA hc ρ
     rw [qd hz] at this
     rw [this,LE.bp]; simp
def wV (cf:Cf) (cc g:Nat) (e:LE) (off n:Nat) (ag:Bool) (bnd:LE) (s:SS) (K:SV->SS->R) (eq:Bool:=false):R :=
 bif Nat.ble (off+n) (cf.Φ.ks cc).length&&(bR s.nx g&&(JC s.nx (ghost s.gs g)&&(e.lt s.nx&&bnd.lt s.nx))) then
  OH cf g (ghost s.gs g) e (((cf.Φ.ks cc).drop off).take n) (fun xs os s=>K (.v ag xs) (bif eq then aP (aP s (bnd.sub (iB os))) ((iB os).sub bnd) else bif os.isEmpty then s else aP s (bnd.sub (iB os)))) s
 else .bad 51 s
def whole (cf:Cf) (cc off n:Nat):Bool:=cf.Φ.raw cc&&(Nat.beq off 0&&Nat.beq n (cf.Φ.ks cc).length)
def Uv (cf:Cf) (y:Nat) (e:LE) (off n:Nat) (ag:Bool) (cc g:Nat) (s:SS) (K:SV->SS->R):R :=
 bif cf.Φ.fy cc then wV cf cc g e off n ag (.k WU) s K
 else bif Nat.blt y s.nx&&(e.lt s.nx&&bR s.nx g) then (match wT s y e with
  | some w=>bif w.lt s.nx then fresh s fun m s=>wV cf cc g e off n ag (.a (.n m)) (px (aP s (((((LE.a (.wt y)).sub w).sub (.a (.n m))).aW (-1)))) (y,e.aW 1,(w.add (.a (.n m))).aW 1)) K (whole cf cc off n) else .bad 52 s
  | none=>fresh s fun m s=>wV cf cc g e off n ag (.a (.n m)) (aP s (((LE.a (.wt y)).sub (.a (.n m))).aW (-1))) K (whole cf cc off n)) else .bad 53 s
def OL:List dw->Nat->Nat->LE->Nat->Option SC
 | [],_,_,_,_=>none
 | .el y' c' e' o' v::l,y,cc,e,o=>bif Nat.beq y' y&&(Nat.beq c' cc&&(Nat.beq o' o&&e'.same e)) then some v else OL l y cc e o
 | _::l,y,cc,e,o=>OL l y cc e o
def RI (l:List dw) (y cc:Nat) (e:LE):Nat->Nat->Option (List SC)
 | _,0=>some []
 | o,n+1=>match OL l y cc e o,RI l y cc e (o+1) n with | some x,some xs=>some (x::xs) | _,_=>none
def qi (s:SS) (y cc:Nat) (e:LE):Nat->List SC->SS
 | _,[]=>s
 | o,x::xs=>bu (qi s y cc e (o+1) xs) (.el y cc e o x)
def AN (cf:Cf) (y:Nat) (e:LE) (off n:Nat) (ag:Bool) (cc g:Nat) (s:SS) (K:SV->SS->R):R :=
 bif cf.Φ.raw cc&&Nat.blt 0 n then (match RI s.ty y cc e off n with
  | some xs=>K (.v ag xs) s
  | none=>bif Nat.blt y s.nx&&e.lt s.nx then Uv cf y e off n ag cc g s fun v s'=>(match v with | .v ag' xs=>K (.v ag' xs) (qi s' y cc e off xs) | v=>K v s') else .bad 66 s)
 else Uv cf y e off n ag cc g s K
def RJ (cf:Cf) (t:TypeId) (x:SV) (s:SS) (K:SV->SS->R):R:=match x with
 | .v false [.bW b o]=>(match jk s.os b with
   | some (_,cs)=>bif dJ cf.P t then (bif Nat.ble (o+ae cf.P t) cs.length then K (.v true ((cs.drop o).take (ae cf.P t))) s else .bad 54 s)
     else bif cr cf.P t then (match cs[o]? with | some x=>K (sc x) s | none=>.bad 55 s) else .bad 56 s
   | none=>.bad 57 s)
 | .v false [.og y e sz o]=>(match oi s.ty y with
   | some (cc,g)=>bif B4 s y e&&Nat.beq sz (ae cf.P (cf.Φ.ty cc)) then
     (bif dJ cf.P t then AN cf y e o (ae cf.P t) true cc g s K else bif cr cf.P t then AN cf y e o 1 false cc g s K else .bad 56 s) else .bad 58 s
   | none=>.bad 59 s)
 | .v false [.ref y]=>(match nF s.ty y with
   | some (cc,g)=>bif cf.Φ.fy cc then (bif dJ cf.P t then wV cf cc g (.k 0) 0 (ae cf.P t) true (.k WU) s K else bif cr cf.P t then wV cf cc g (.k 0) 0 1 false (.k WU) s K else .bad 56 s) else .bad 62 s
   | none=>.bad 60 s)
 | .v false [.tM y o]=>(match nF s.ty y with
   | some (cc,g)=>bif cf.Φ.fy cc then (bif dJ cf.P t then wV cf cc g (.k 0) o (ae cf.P t) true (.k WU) s K else bif cr cf.P t then wV cf cc g (.k 0) o 1 false (.k WU) s K else .bad 56 s) else .bad 62 s
   | none=>.bad 60 s)
 | _=>.bad 61 s
theorem KS {Φ:Forms} {d:Gd} {g j:Nat} {ks:List K2} {cs:List AV} {fs:List TF} (h:gP Φ d g j ks cs fs) (off n:Nat):∃f2,gP Φ d g j ((ks.drop off).take n) ((cs.drop off).take n) f2/\iH Φ f2<=iH Φ fs/\∀f∈f2,f∈fs:=by
 have hk:ks=ks.take off++((ks.drop off).take n++(ks.drop off).drop n):=by rw [List.take_append_drop,List.take_append_drop]
 rw [hk] at h
 obtain⟨f1,f',e1,w1,w2⟩:=gP.split h
 obtain⟨f2,f3,e2,w3,w4⟩:=gP.split w2
 have hl:=h.len
 rw [<-hk] at hl
 refine⟨f2,?_,?_,?_⟩
 · have e3:(List.drop (List.take off ks).length cs).take (List.take n (List.drop off ks)).length=(cs.drop off).take n:=by
    rw [List.length_take,List.length_take,List.length_drop]
    by_cases ho:off<=ks.length
    · rw [Nat.min_eq_left ho]
      by_cases hn:n<=ks.length-off
      · rw [Nat.min_eq_left hn]
      · rw [Nat.min_eq_right (by omega),List.take_of_length_le (by rw [List.length_drop]; omega),List.take_of_length_le (by rw [List.length_drop]; omega)]
    · rw [Nat.min_eq_right (by omega),List.drop_of_length_le (by omega),List.drop_of_length_le (by omega)]; simp
   rw [<-e3]; exact w3
 · rw [e1,e2,gY,gY]; omega
 · intro f hf; rw [e1,e2]; simp [hf]
theorem KT {Φ:Forms} {d:Gd} {g j:Nat} {ks:List K2} {cs:List AV} {fs:List TF} (h:gP Φ d g j ks cs fs):gP Φ d g j ((ks.drop 0).take ks.length) ((cs.drop 0).take ks.length) fs:=by
 have:=h.len
 rw [List.drop_zero,List.drop_zero,List.take_of_length_le (Nat.le_refl _),List.take_of_length_le (by omega)]
 exact h
theorem AP {cc g J m:Nat} {e bnd:LE} {off n:Nat} {ag eq:Bool} {K:SV->SS->R} {cells:List AV} (hΦ:cf.Φ=c.Φ) (h:(wV cf cc g e off n ag bnd s K eq).Ok) (hk:Ok c T G Γ ρ s) (he:0<=e.ev ρ/\J=(e.ev ρ).toNat) (hE:eI c.P c.Φ G Γ m cc (ig ρ g) J cells) (hb:(m:Int)<=bnd.ev ρ)
  (hq:eq=true->off=0/\n=(c.Φ.ks cc).length/\bnd.ev ρ=(m:Int)/\∃fs,gP c.Φ (Γ.gd (ig ρ g)) (ig ρ g) J (c.Φ.ks cc) cells fs/\iH c.Φ fs=m/\∀f∈fs,fx c.P c.Φ G Γ f:=by exact fun h=>by cases h) :
  fa c T G Γ s ρ fun ρ' s'=>∃xs,(K (.v ag xs) s').Ok/\aE ρ' xs=(cells.drop off).take n:=by
 unfold wV at h
 rw [hΦ] at h
 cases hc:(Nat.ble (off+n) (c.Φ.ks cc).length&&(bR s.nx g&&(JC s.nx (ghost s.gs g)&&(e.lt s.nx&&bnd.lt s.nx)))) with
 | false=>rw [hc] at h; cases h
 | true =>
   rw [hc] at h
   simp only [Bool.and_eq_true] at hc
   obtain⟨c1,c2,c3,c4,c5⟩:=hc
   obtain⟨f2,m1,m2,m3,m4⟩:∃f2,gP c.Φ (Γ.gd (ig ρ g)) (ig ρ g) J (((c.Φ.ks cc).drop off).take n) ((cells.drop off).take n) f2/\iH c.Φ f2<=m/\(∀f∈f2,fx c.P c.Φ G Γ f)/\(eq=true->bnd.ev ρ=(iH c.Φ f2:Int)):=by
    cases hqe:eq with
    | true =>
      obtain⟨q1,q2,q3,fs,w1,w2,w3⟩:=hq hqe
      subst q1 q2
      exact⟨fs,KT w1,Nat.le_of_eq w2,w3,fun _=>by rw [q3,w2]⟩
    | false =>
      obtain⟨fs,w1,w2,w3⟩:=hE
      obtain⟨f2,m1,m2,m3⟩:=KS w1 off n
      exact⟨f2,m1,by omega,fun f hf=>w3 f (m3 f hf),fun h=>by cases h⟩
   refine (B2 hΦ (J:=J) h hk c2 (fun dv hd=>?_) ⟨c4,he⟩ m1 m3).bind fun ρ1 s1 a1 n1 o1 hh=>?_
   · rw [hd] at c3; exact⟨au c3,cE hd hk⟩
   · obtain⟨xs,os,g1,g2,g3,g4⟩:=hh
     cases hqe:eq with
     | true =>
       rw [hqe] at g1
       have e0:bnd.ev ρ1=(iB os).ev ρ1:=by rw [wO,LE.bP a1 c5,g4,m4 hqe]
       exact fa.mk (s':=Rd.aP (Rd.aP s1 (bnd.sub (iB os))) ((iB os).sub bnd)) (de.refl _ _) (Nat.le_refl _) ((o1.aP (by rw [LE.aw]; omega)).aP (by rw [LE.aw]; omega)) ⟨xs,g1,g2⟩
     | false =>
     rw [hqe] at g1
     cases hos:os.isEmpty with
     | true=>rw [hos] at g1; exact fa.here o1 ⟨xs,g1,g2⟩
     | false =>
       rw [hos] at g1
       refine fa.mk (s':=Rd.aP s1 (bnd.sub (iB os))) (de.refl _ _) (Nat.le_refl _) (o1.aP ?_) ⟨xs,g1,g2⟩
       rw [LE.aw,wO,LE.bP a1 c5,g4]
       omega
theorem H8 {y cc g:Nat} {e:LE} {off n:Nat} {ag:Bool} {K:SV->SS->R} (hP:cf.P=c.P) (hΦ:cf.Φ=c.Φ) (h:(Uv cf y e off n ag cc g s K).Ok) (hk:Ok c T G Γ ρ s) (he:0<=e.ev ρ) (hlt:(e.ev ρ).toNat<(ρ y).ns.length) (ht:fx c.P c.Φ G Γ (.sl (ρ y).vv cc (ig ρ g) (ρ y).ns)) (hfsl:oi s.ty y=some (cc,g)) :
  fa c T G Γ s ρ fun ρ' s'=>∃xs b o cap kd el size C,(K (.v ag xs) s').Ok/\(ρ y).vv=.di b o (ρ y).ns.length cap/\G b=some (.cells kd el size C)/\o+(e.ev ρ).toNat*ae c.P (c.Φ.ty cc)+ae c.P (c.Φ.ty cc)<=C.length/\(c.Φ.ks cc).length=ae c.P (c.Φ.ty cc)/\off+n<=(c.Φ.ks cc).length /\
   aE ρ' xs=((((C.drop (o+(e.ev ρ).toNat*ae c.P (c.Φ.ty cc))).take (ae c.P (c.Φ.ty cc))).drop off).take n):=by
 obtain⟨m,hm⟩:∃m,(ρ y).ns[(e.ev ρ).toNat]?=some m:=⟨_,List.getElem?_eq_getElem hlt⟩
 obtain⟨b,o,cap,kd,el,size,C,q1,q2,q3,q4,q5⟩:=ht.X8 hk.q.ht hm
 have hlen:(c.Φ.ks cc).length=ae c.P (c.Φ.ty cc):=by
  obtain⟨fs,w1,_⟩:=q4
  rw [<-w1.len,List.length_take,List.length_drop]; omega
 have fin:∀{ρ1:bc} {s1:SS} {bnd:LE} {eq:Bool},de s.nx ρ ρ1->s.nx<=s1.nx->Ok c T G Γ ρ1 s1->(wV cf cc g e off n ag bnd s1 K eq).Ok->bR s.nx g=true->e.lt s.nx=true->(m:Int)<=bnd.ev ρ1->(eq=true->whole cf cc off n=true/\bnd.ev ρ1=(m:Int))->fa c T G Γ s ρ fun ρ' s'=>∃xs b o cap kd el size C,(K (.v ag xs) s').Ok/\(ρ y).vv=.di b o (ρ y).ns.length cap/\G b=some (.cells kd el size C)/\o+(e.ev ρ).toNat*ae c.P (c.Φ.ty cc)+ae c.P (c.Φ.ty cc)<=C.length/\(c.Φ.ks cc).length=ae c.P (c.Φ.ty cc)/\off+n<=(c.Φ.ks cc).length /\
   aE ρ' xs=((((C.drop (o+(e.ev ρ).toNat*ae c.P (c.Φ.ty cc))).take (ae c.P (c.Φ.ty cc))).drop off).take n):=fun {ρ1 s1 bnd eq} a1 n1 o1 hp hg' hel hb hbe=>by
  have hle:off+n<=(c.Φ.ks cc).length:=by
   unfold wV at hp
   rw [hΦ] at hp
   cases hc:Nat.ble (off+n) (c.Φ.ks cc).length with
   | false=>rw [hc] at hp; cases hp
   | true=>exact aL hc
  obtain⟨ρ2,s2,a2,n2,o2,xs,g1,g2⟩:=AP hΦ hp o1 (J:=(e.ev ρ).toNat) (by rw [LE.bP a1 hel]; exact⟨he,rfl⟩) (by rw [bV a1 hg']; exact q4) hb (fun hq=>by
   obtain⟨w1,w2⟩:=hbe hq
   unfold whole at w1
   rw [hΦ] at w1
   simp only [Bool.and_eq_true] at w1
   obtain⟨w1,w3,w4⟩:=w1
   rw [bV a1 hg']
   exact⟨ai w3,ai w4,w2,q5 w1⟩)
  exact⟨ρ2,s2,a1.trans a2 n1,by omega,o2,xs,b,o,cap,kd,el,size,C,g1,q1,q2,q3,hlen,hle,g2⟩
 unfold Uv at h
 rw [hΦ] at h
 cases hu:c.Φ.fy cc with
 | true =>
   rw [hu] at h
   have h:(wV cf cc g e off n ag (.k WU) s K).Ok:=h
   have hgl:bR s.nx g=true/\e.lt s.nx=true:=by
    have hp:=h
    unfold wV at hp
    cases hc:(Nat.ble (off+n) (cf.Φ.ks cc).length&&(bR s.nx g&&(JC s.nx (ghost s.gs g)&&(e.lt s.nx&&(LE.k WU).lt s.nx)))) with
    | false=>rw [hc] at hp; cases hp
    | true=>simp only [Bool.and_eq_true] at hc; exact⟨hc.2.1,hc.2.2.2.1⟩
   have hmw:m=WU:=by
    obtain⟨_,ht⟩:=ht
    generalize (ρ y).vv=vv at ht
    rcases ht with ⟨_,h0⟩ | ⟨h0,hr⟩ | ⟨b',cap',L,size',C',r1,r2,r3,_⟩
    · rw [h0] at hm; simp at hm
    · generalize (ρ y).ns=nn at hr hm
      cases hr with
      | nil=>simp at hm
      | emp _=>simp at hm
      | aR _ hu' _ _=>rw [hu] at hu'; cases hu'
    · obtain⟨_,d2,_⟩:=hk.q.ht.b _ _ r2
      refine d2 hu m ?_
      rw [r3] at hm
      exact List.mem_of_mem_take (List.mem_of_getElem? hm)
   exact fin (de.refl _ _) (Nat.le_refl _) hk h hgl.1 hgl.2 (by rw [LE.bp,hmw]; exact Int.le_refl _) (fun h=>by cases h)
 | false =>
   rw [hu] at h
   simp only [cond_false] at h
   cases hc:(Nat.blt y s.nx&&(e.lt s.nx&&bR s.nx g)) with
   | false=>rw [hc] at h; cases h
   | true =>
     rw [hc] at h
     simp only [Bool.and_eq_true] at hc
     obtain⟨hy,hel,hgl⟩:=hc
     have hy:=au hy
     simp only [cond_true] at h
     have hsum:((ρ y).ns.take ((e.ev ρ).toNat+1)).sum=((ρ y).ns.take (e.ev ρ).toNat).sum+m:=by rw [List.take_add_one,hm]; simp
     have htk:∀(l:List Nat) (k:Nat),(l.take k).sum<=l.sum:=by
      intro l
      induction l with
      | nil=>intro k; simp
      | cons a l ih=>intro k; cases k with
        | zero=>simp
        | succ k=>have:=ih k; simp; omega
     have htot:=htk (ρ y).ns ((e.ev ρ).toNat+1)
     have hwt:∀{ρ1:bc},de s.nx ρ ρ1->(LE.a (.wt y)).ev ρ1=(((ρ y).ns.sum+(ρ y).ns.length:Nat):Int):=fun {ρ1} a1=>by
      rw [LE.a9]; show (((ρ1 y).ns.sum+(ρ1 y).ns.length:Nat):Int)=_; rw [a1 y hy]
     have x5:∀{ρ1:bc} {k:Nat},ρ1 k=.n m->(LE.a (.n k)).ev ρ1=(m:Int):=fun {ρ1 k} e1=>by rw [LE.a9]; show ((ρ1 k).nn:Int)=_; rw [e1]; rfl
     cases hw:wT s y e with
     | none =>
       rw [hw] at h
       obtain⟨h1,h2,h3,h4⟩:=az h hk (.n m)
       have hok:=h3.aP (e:=((LE.a (.wt y)).sub (.a (.n s.nx))).aW (-1)) (by rw [LE.aJ,LE.aw,hwt h2,x5 h4]; omega)
       exact fin h2 (Nat.le_succ _) hok h1 hgl hel (by rw [x5 h4]; exact Int.le_refl _) (fun hq=>⟨hq,x5 h4⟩)
     | some w =>
       rw [hw] at h
       simp only at h
       cases hwl:w.lt s.nx with
       | false=>rw [hwl] at h; cases h
       | true =>
         rw [hwl] at h
         simp only [cond_true] at h
         obtain⟨h1,h2,h3,h4⟩:=az h hk (.n m)
         have hpw:=wU hw hk.sat
         have hw2:=LE.bP h2 hwl
         have hok:=(h3.aP (e:=((((LE.a (.wt y)).sub w).sub (.a (.n s.nx))).aW (-1))) (by rw [LE.aJ,LE.aw,LE.aw,hwt h2,x5 h4,hw2]; omega)).px (p:=(y,e.aW 1,(w.add (.a (.n s.nx))).aW 1)) (by
          show 0<=(e.aW 1).ev _/\((((ρ.up s.nx (.n m) y).ns.take ((e.aW 1).ev _).toNat).sum:Nat):Int)+(e.aW 1).ev _=((w.add (.a (.n s.nx))).aW 1).ev _
          rw [LE.aJ,LE.bP h2 hel,LE.aJ,LE.gF,x5 h4,hw2,h2 y hy,show (e.ev ρ+1).toNat=(e.ev ρ).toNat+1 by omega,hsum]
          refine⟨by omega,?_⟩
          omega)
         exact fin h2 (Nat.le_succ _) hok h1 hgl hel (by rw [x5 h4]; exact Int.le_refl _) (fun hq=>⟨hq,x5 h4⟩)
theorem mY:∀{l:List dw} {y cc o:Nat} {e:LE} {v:SC},OL l y cc e o=some v->∃e',dw.el y cc e' o v∈l/\∀ρ,e'.ev ρ=e.ev ρ
 | [],_,_,_,_,_,h=>by cases h
 | .el y' c' e' o' v'::l,y,cc,o,e,v,h=>by
   have h:(bif Nat.beq y' y&&(Nat.beq c' cc&&(Nat.beq o' o&&e'.same e)) then some v' else OL l y cc e o)=some v:=h
   cases hb:(Nat.beq y' y&&(Nat.beq c' cc&&(Nat.beq o' o&&e'.same e))) with
   | true =>
     rw [hb] at h; cases h
     simp only [Bool.and_eq_true] at hb
     have h1:=ai hb.1
     have h2:=ai hb.2.1
     have h3:=ai hb.2.2.1
     subst h1 h2 h3
     exact⟨e',List.mem_cons_self ..,LE.bj hb.2.2.2⟩
   | false=>rw [hb] at h; obtain⟨e2,h1,h2⟩:=mY h; exact⟨e2,List.mem_cons_of_mem _ h1,h2⟩
 | .sl _ _ _::l,_,_,_,_,_,h=>by obtain⟨e2,h1,h2⟩:=mY (l:=l) h; exact⟨e2,List.mem_cons_of_mem _ h1,h2⟩
 | .pt _ _ _::l,_,_,_,_,_,h=>by obtain⟨e2,h1,h2⟩:=mY (l:=l) h; exact⟨e2,List.mem_cons_of_mem _ h1,h2⟩
 | .mp _ _ _::l,_,_,_,_,_,h=>by obtain⟨e2,h1,h2⟩:=mY (l:=l) h; exact⟨e2,List.mem_cons_of_mem _ h1,h2⟩
theorem H9 {y cc b o l cap size sz:Nat} {el:TypeId} {C:List AV} {e:LE} (hk:Ok c T G Γ ρ s) (hsz:ae c.P (c.Φ.ty cc)=sz) (hv:(ρ y).vv=.di b o l cap) (hG:G b=some (.cells .raw el size C)):∀{n off:Nat} {xs:List SC},RI s.ty y cc e off n=some xs->xs.length=n/\(∀k,k<n->off+k<sz/\C[o+(e.ev ρ).toNat*sz+(off+k)]?=(aE ρ xs)[k]?)
 | 0,off,xs,h=>by cases h; exact⟨rfl,fun k hk=>absurd hk (by omega)⟩
 | n+1,off,xs,h=>by
   unfold RI at h
   split at h
   · rename_i x xs' h1 h2
     cases h
     obtain⟨i1,i2⟩:=H9 hk hsz hv hG h2
     obtain⟨e',m1,m2⟩:=mY h1
     obtain⟨b',o',l',cap',el',size',C',t1,t2,t3,t4,t5,t6⟩:=hk.ty m1
     have t1:(ρ y).vv=.di b' o' l' cap':=t1
     rw [hv] at t1; cases t1
     rw [hG] at t3; cases t3
     rw [hsz] at t5 t6
     have t6:C[o+(e'.ev ρ).toNat*sz+off]?=some (x.den ρ):=t6
     rw [m2 ρ] at t6
     refine⟨by simp [i1],fun k hk=>?_⟩
     cases k with
     | zero=>exact⟨t5,t6⟩
     | succ k =>
       obtain⟨a1,a2⟩:=i2 k (by omega)
       refine⟨by omega,?_⟩
       rw [show off+(k+1)=off+1+k by omega,a2]
       rfl
   · cases h
theorem vh (s:SS) (y cc:Nat) (e:LE):∀(o:Nat) (xs:List SC),(qi s y cc e o xs).nx=s.nx
 | _,[]=>rfl
 | o,x::xs=>vh s y cc e (o+1) xs
theorem vi {y cc b o l cap size sz:Nat} {el:TypeId} {C:List AV} {e:LE} (hsz:ae c.P (c.Φ.ty cc)=sz) (hv:(ρ y).vv=.di b o l cap) (hG:G b=some (.cells .raw el size C)) (hlt:(e.ev ρ).toNat<l) (hle:o+l*sz<=C.length):∀{xs:List SC} {off:Nat},Ok c T G Γ ρ s->(∀k,k<xs.length->off+k<sz/\C[o+(e.ev ρ).toNat*sz+(off+k)]?=(aE ρ xs)[k]?)->Ok c T G Γ ρ (qi s y cc e off xs)
 | [],off,hk,_=>hk
 | x::xs,off,hk,h=>by
   refine (vi hsz hv hG hlt hle hk fun k hkl=>?_).bu ?_
   · obtain⟨a1,a2⟩:=h (k+1) (by simp; omega)
     refine⟨by omega,?_⟩
     rw [show off+1+k=off+(k+1) by omega,a2]; rfl
   · obtain⟨a1,a2⟩:=h 0 (by simp)
     refine⟨b,o,l,cap,el,size,C,hv,hlt,hG,by rw [hsz]; exact hle,by rw [hsz]; omega,?_⟩
     rw [hsz]
     exact a2
theorem B5 {y cc g:Nat} {e:LE} {off n:Nat} {ag:Bool} {K:SV->SS->R} (hP:cf.P=c.P) (hΦ:cf.Φ=c.Φ) (h:(AN cf y e off n ag cc g s K).Ok) (hk:Ok c T G Γ ρ s) (he:0<=e.ev ρ) (hlt:(e.ev ρ).toNat<(ρ y).ns.length) (ht:fx c.P c.Φ G Γ (.sl (ρ y).vv cc (ig ρ g) (ρ y).ns)) (hfsl:oi s.ty y=some (cc,g)) :
  fa c T G Γ s ρ fun ρ' s'=>∃xs b o cap kd el size C,(K (.v ag xs) s').Ok/\(ρ y).vv=.di b o (ρ y).ns.length cap/\G b=some (.cells kd el size C)/\o+(e.ev ρ).toNat*ae c.P (c.Φ.ty cc)+ae c.P (c.Φ.ty cc)<=C.length/\(c.Φ.ks cc).length=ae c.P (c.Φ.ty cc)/\off+n<=(c.Φ.ks cc).length /\
   aE ρ' xs=((((C.drop (o+(e.ev ρ).toNat*ae c.P (c.Φ.ty cc))).take (ae c.P (c.Φ.ty cc))).drop off).take n):=by
 unfold AN at h
 rw [hΦ] at h
 cases hr:(c.Φ.raw cc&&Nat.blt 0 n) with
 | false=>rw [hr] at h; exact H8 hP hΦ h hk he hlt ht hfsl
 | true =>
   rw [hr] at h
   simp only [cond_true] at h
   rw [Bool.and_eq_true] at hr
   have hn:=au hr.2
   -- the block came in
   obtain⟨b,o,cap,el,size,C,v1,v2,v3,v4,v5⟩:∃b o cap el size C,(ρ y).vv=.di b o (ρ y).ns.length cap/\G b=some (.cells .raw el size C)/\o+(ρ y).ns.length*ae c.P (c.Φ.ty cc)<=C.length/\o+(e.ev ρ).toNat*ae c.P (c.Φ.ty cc)+ae c.P (c.Φ.ty cc)<=C.length/\(c.Φ.ks cc).length=ae c.P (c.Φ.ty cc):=by
    obtain⟨_,ht⟩:=ht
    generalize (ρ y).vv=vv at ht
    generalize (ρ y).ns=nn at ht hlt
    have hmul:(e.ev ρ).toNat*ae c.P (c.Φ.ty cc)+ae c.P (c.Φ.ty cc)<=nn.length*ae c.P (c.Φ.ty cc):=by
     have:((e.ev ρ).toNat+1)*ae c.P (c.Φ.ty cc)<=nn.length*ae c.P (c.Φ.ty cc):=Nat.mul_le_mul_right _ hlt
     rwa [Nat.succ_mul] at this
    rcases ht with ⟨_,h0⟩ | ⟨_,hr⟩ | ⟨b',cap',L,size',C',r1,r2,r3,_⟩
    · rw [h0] at hlt; simp at hlt
    · cases hr with
      | nil=>simp at hlt
      | emp _=>simp at hlt
      | @aR b o cap size _ el C _ hb hu hl h =>
        have hel:=h _ _ (List.getElem?_eq_getElem hlt)
        refine⟨b,o,cap,el,size,C,rfl,hb,hl,by omega,?_⟩
        cases hel with
        | mk fs hw _ _ _ _ _=>rw [<-(hw 0).len,List.length_take,List.length_drop]; omega
    · have:=(hk.q.ht.b _ _ r2).1.2
      rw [hr.1] at this; cases this
   cases hel:RI s.ty y cc e off n with
   | some xs =>
     rw [hel] at h
     obtain⟨i1,i2⟩:=H9 hk rfl v1 v2 hel
     have hle:off+n<=ae c.P (c.Φ.ty cc):=by have:=(i2 (n-1) (by omega)).1; omega
     refine fa.here hk ⟨xs,b,o,cap,.raw,el,size,C,h,v1,v2,v4,v5,by rw [v5]; exact hle,?_⟩
     apply List.ext_getElem?
     intro k
     by_cases hkn:k<n
     · rw [<-(i2 k hkn).2,List.getElem?_take_of_lt hkn,List.getElem?_drop,List.getElem?_take_of_lt (by omega),List.getElem?_drop]
     · rw [List.getElem?_eq_none (by simp [aE]; omega),List.getElem?_eq_none (by rw [List.length_take]; omega)]
   | none =>
     rw [hel] at h
     simp only at h
     cases hyl:(Nat.blt y s.nx&&e.lt s.nx) with
     | false=>rw [hyl] at h; cases h
     | true =>
       rw [hyl] at h
       simp only [cond_true] at h
       rw [Bool.and_eq_true] at hyl
       obtain⟨ρ',s',a,n',o',xs,b2,o2,cap2,kd2,el2,size2,C2,k1,k2,k3,k4,k5,k6,k7⟩:=H8 hP hΦ h hk he hlt ht hfsl
       rw [v1] at k2; cases k2
       rw [v2] at k3; cases k3
       have k1:(K (.v ag xs) (qi s' y cc e off xs)).Ok:=k1
       have hy2:=a y (au hyl.1)
       have he2:e.ev ρ'=e.ev ρ:=LE.bP a hyl.2
       have hxl:xs.length=n:=by
        have:=congrArg List.length k7
        rw [List.length_take,List.length_drop,List.length_take,List.length_drop] at this
        simp only [aE,List.length_map] at this
        omega
       refine⟨ρ',qi s' y cc e off xs,a,by rw [vh]; exact n',vi (b:=b) (o:=o) (l:=(ρ y).ns.length) (cap:=cap) (size:=size) (el:=el) (C:=C) rfl (by rw [hy2]; exact v1) v2 (by rw [he2]; exact hlt) v3 o' fun k hkl=>?_,xs,b,o,cap,.raw,el,size,C,k1,v1,v2,k4,k5,k6,k7⟩
       rw [hxl] at hkl
       refine⟨by omega,?_⟩
       rw [he2,k7,List.getElem?_take_of_lt hkl,List.getElem?_drop,List.getElem?_take_of_lt (by omega),List.getElem?_drop]
theorem qj (ρ:bc) (cs:List SC) (o n:Nat):aE ρ ((cs.drop o).take n)=((aE ρ cs).drop o).take n:=by simp [aE]
theorem Ia {C:List AV} {p n:Nat} {xs:List SC} (h:aE ρ xs=(C.drop p).take n) (hn:n=1) (hp:p<C.length):∃x,xs=[x]/\C[p]?=some (x.den ρ):=by
 subst hn
 have e1:(C.drop p).take 1=[C[p]]:=by rw [List.drop_eq_getElem_cons hp,List.take_succ_cons,List.take_zero]
 rw [e1] at h
 cases xs with
 | nil=>cases h
 | cons x xs =>
   have h:x.den ρ::aE ρ xs=[C[p]]:=h
   rw [List.cons.injEq] at h
   have hnil:xs=[]:=by cases xs with | nil=>rfl | cons _ _=>cases h.2
   subst hnil
   exact⟨x,rfl,by rw [List.getElem?_eq_getElem hp,h.1]⟩
theorem MD (x:SC) (ρ:bc):x.den ρ≠aD:=by
 have key:∀v:AV,bZ v=true->v≠aD:=fun v h e=>by subst e; cases h
 cases x with
 | ref x=>exact key _ (U.sZ _)
 | og x i sz o =>
   refine key _ ?_
   show bZ (n7 _ _)=true
   unfold n7
   split<;>rfl
 | tM x o =>
   refine key _ ?_
   show bZ (lE _ _)=true
   unfold lE
   split<;>rfl
 | _=>exact fun h=>by cases h
theorem KU (xs:List SC) (ρ:bc):aD ∉ aE ρ xs:=fun h=>by
 obtain⟨x,_,e⟩:=List.mem_map.1 h
 exact MD x ρ e
theorem AQ {t:TypeId} {x:Nat} {v:SV} {K:SV->SS->R} (ho:(ab ops i).op=.load t (.tmp x)) (hg:(ab ops i).guard=none) (hP:cf.P=c.P) (hΦ:cf.Φ=c.Φ) (h:(RJ cf t v s K).Ok) (hk:Ok c T G Γ ρ s) (hx:T.at x=v.den ρ):Lo c T G Γ ops i s ρ K:=by
 -- an object's part
 have obj:∀{y o cc g n:Nat} {ag:Bool},nF s.ty y=some (cc,g)->T.at x=lE (ρ y).vv o->(wV cf cc g (.k 0) o n ag (.k WU) s K).Ok->c.Φ.fy cc=true->(ag=true/\dJ c.P t=true/\n=ae c.P t)∨(ag=false/\dJ c.P t=false/\cr c.P t=true/\n=1)->Lo c T G Γ ops i s ρ K:=fun {y o cc g n ag} hp hxp h hu hc=>by
  obtain⟨b,L,m,size,C,q1,q2,q3,q4,q5,q6,q7⟩:=(hk.ty (iM hp)).deref hk.q.ht
  have hmw:m=WU:=(hk.q.ht.b _ _ q2).2.1 hu m (List.mem_of_getElem? q3)
  have hle:o+n<=(c.Φ.ks cc).length:=by
   have hp:=h
   unfold wV at hp
   rw [hΦ] at hp
   cases hc:Nat.ble (o+n) (c.Φ.ks cc).length with
   | false=>rw [hc] at hp; cases hp
   | true=>exact aL hc
  have hlen:(c.Φ.ks cc).length=ae c.P (c.Φ.ty cc):=by
   obtain⟨fs,w1,_⟩:=q7
   rw [<-w1.len,List.length_take]; omega
  have hq1:(ρ y).vv=.bW b 0:=q1
  rw [hq1] at hxp
  have hxp:T.at x=.bW b (0+o):=hxp
  refine (AP hΦ h hk (J:=0) (by rw [LE.bp]; exact⟨Int.le_refl _,rfl⟩) q7 (by rw [LE.bp,hmw]; exact Int.le_refl _)).mono fun ρ2 s2 a2 n2 o2 hh=>?_
  obtain⟨xs,g1,g2⟩:=hh
  have e1:((C.take (ae c.P (c.Φ.ty cc))).drop o).take n=(C.drop (0+o)).take n:=by
   rw [List.drop_take,List.take_take,Nat.min_eq_left (by omega),Nat.zero_add]
  rw [e1] at g2
  rcases hc with ⟨rfl,h1,rfl⟩ | ⟨rfl,h1,h2,h3⟩
  · exact⟨_,g1,by
     show aZ _ _ _ _ _ _ _ _ _ (.agg (aE ρ2 xs))
     rw [g2]
     exact aZ.BP hg ho hxp h1 rfl q4 (by omega) rfl⟩
  · obtain⟨u,rfl,hu⟩:=Ia g2 h3 (by omega)
    exact⟨_,g1,aZ.yP hg ho hxp h2 h1 q4 hu⟩
 unfold RJ at h
 rw [hP,hΦ] at h
 split at h
 · rename_i b o
   cases hl:jk s.os b with
   | none=>rw [hl] at h; cases h
   | some p =>
     obtain⟨el,cs⟩:=p
     rw [hl] at h
     simp only at h
     have hG:=hk.loc hl
     have hx:T.at x=.bW (ρ b).nn o:=hx
     have kX:(aE ρ cs).length=cs.length:=by simp [aE]
     cases ha:dJ c.P t with
     | true =>
       rw [ha] at h
       cases hb:Nat.ble (o+ae c.P t) cs.length with
       | false=>rw [hb] at h; cases h
       | true =>
         rw [hb] at h
         refine Lo.here hk h ?_
         show aZ _ _ _ _ _ _ _ _ _ (.agg (aE ρ _))
         rw [qj]
         exact aZ.BP hg ho hx ha rfl hG (by rw [kX]; exact aL hb) rfl
     | false =>
       rw [ha] at h
       cases hkn:cr c.P t with
       | false=>rw [hkn] at h; cases h
       | true =>
         rw [hkn] at h
         simp only [cond_true,cond_false] at h
         cases hc:cs[o]? with
         | none=>rw [hc] at h; cases h
         | some u =>
           rw [hc] at h
           exact Lo.here hk h (aZ.yP hg ho hx hkn ha hG (by simp [aE,hc]; rfl))
 · rename_i y e sz o
   cases hf:oi s.ty y with
   | none=>rw [hf] at h; cases h
   | some p =>
     obtain⟨cc,g⟩:=p
     rw [hf] at h
     simp only at h
     cases hc:(B4 s y e&&Nat.beq sz (ae c.P (c.Φ.ty cc))) with
     | false=>rw [hc] at h; cases h
     | true =>
       rw [hc] at h
       simp only [cond_true] at h
       rw [Bool.and_eq_true] at hc
       obtain⟨cc',g',b0,o0,cp0,r1,r2,r3,r4,r5⟩:=qh hc.1 hk
       rw [hf] at r1
       simp only [Option.some.injEq,Prod.mk.injEq] at r1
       obtain⟨rfl,rfl⟩:=r1
       have hsz:=ai hc.2
       subst hsz
       have fin:∀{n:Nat} {ag:Bool},(AN cf y e o n ag cc g s K).Ok->(ag=true/\dJ c.P t=true/\n=ae c.P t)∨(ag=false/\dJ c.P t=false/\cr c.P t=true/\n=1)->Lo c T G Γ ops i s ρ K:=fun {n ag} h hcs=>by
        refine (B5 hP hΦ h hk r3 r4 r5 hf).mono fun ρ2 s2 a2 n2 o2 hh=>?_
        obtain⟨xs,b,o',cap,kd,el,size,C,g1,g2,g3,g4,g5,g6,g7⟩:=hh
        have hx:T.at x=.bW b (o'+((e.ev ρ).toNat*ae c.P (c.Φ.ty cc)+o)):=hx.trans (kW g2)
        have e1:(((C.drop (o'+(e.ev ρ).toNat*ae c.P (c.Φ.ty cc))).take (ae c.P (c.Φ.ty cc))).drop o).take n=(C.drop (o'+((e.ev ρ).toNat*ae c.P (c.Φ.ty cc)+o))).take n:=by
         rw [List.drop_take,List.take_take,List.drop_drop,Nat.min_eq_left (by omega),Nat.add_assoc]
        rw [e1] at g7
        rcases hcs with ⟨rfl,h1,rfl⟩ | ⟨rfl,h1,h2,h3⟩
        · exact⟨_,g1,by
           show aZ _ _ _ _ _ _ _ _ _ (.agg (aE ρ2 xs))
           rw [g7]
           exact aZ.BP hg ho hx h1 rfl g3 (by omega) rfl (fun _=>by rw [<-g7]; exact KU xs ρ2)⟩
        · obtain⟨u,rfl,hu⟩:=Ia g7 h3 (by omega)
          exact⟨_,g1,aZ.yP hg ho hx h2 h1 g3 hu (fun _=>MD u ρ2)⟩
       cases ha:dJ c.P t with
       | true=>rw [ha] at h; exact fin h (.inl ⟨rfl,ha,rfl⟩)
       | false =>
         rw [ha] at h
         cases hkn:cr c.P t with
         | false=>rw [hkn] at h; cases h
         | true=>rw [hkn] at h; exact fin h (.inr ⟨rfl,ha,hkn,rfl⟩)
 · rename_i y
   cases hf:nF s.ty y with
   | none=>rw [hf] at h; cases h
   | some p =>
     obtain⟨cc,g⟩:=p
     rw [hf] at h
     simp only at h
     have hx:T.at x=lE (ρ y).vv 0:=hx.trans (by obtain⟨b,hb⟩:=tg hk hf; show (ρ y).vv=_; rw [hb]; rfl)
     cases hu:c.Φ.fy cc with
     | false=>rw [hu] at h; cases h
     | true =>
       rw [hu] at h
       cases ha:dJ c.P t with
       | true=>rw [ha] at h; exact obj hf hx h hu (.inl ⟨rfl,ha,rfl⟩)
       | false =>
         rw [ha] at h
         cases hkn:cr c.P t with
         | false=>rw [hkn] at h; cases h
         | true=>rw [hkn] at h; exact obj hf hx h hu (.inr ⟨rfl,ha,hkn,rfl⟩)
 · rename_i y o
   cases hf:nF s.ty y with
   | none=>rw [hf] at h; cases h
   | some p =>
     obtain⟨cc,g⟩:=p
     rw [hf] at h
     simp only at h
     cases hu:c.Φ.fy cc with
     | false=>rw [hu] at h; cases h
     | true =>
       rw [hu] at h
       cases ha:dJ c.P t with
       | true=>rw [ha] at h; exact obj hf hx h hu (.inl ⟨rfl,ha,rfl⟩)
       | false =>
         rw [ha] at h
         cases hkn:cr c.P t with
         | false=>rw [hkn] at h; cases h
         | true=>rw [hkn] at h; exact obj hf hx h hu (.inr ⟨rfl,ha,hkn,rfl⟩)
 · cases h
def RK (cf:Cf) (t:TypeId) (x:SV) (s:SS) (K:SV->SS->R):R:=match cf.P.underlying t,x with
 | some (.slice _),.v false [.aB]=>K (sc (.int .i64 (.k 0))) s
 | some (.slice _),.v false [.ref y]=>(match oi s.ty y with | some _=>K (sc (.int .i64 (.a (.len y)))) s | none=>.bad 63 s)
 | some .string,.v false [.str y]=>K (sc (.int .i64 (.a (.sl y)))) s
 | some .string,.v false [.lD l _]=>K (sc (.int .i64 (.k l))) s
 | _,_=>.bad 64 s
theorem AR {cl:Call} {t:TypeId} {ats:List TypeId} {x:Operand} {v:SV} {K:SV->SS->R} (ho:(ab ops i).op=.call cl) (hc:cl.callee=.builtin .len) (hats:cl.argTypes.toList=t::ats) (hxa:cl.args.toList=[x]) (hg:(ab ops i).guard=none) (hP:cf.P=c.P) (h:(RK cf t v s K).Ok) (hk:Ok c T G Γ ρ s) (hx:ba c.nt T x (v.den ρ)):Lo c T G Γ ops i s ρ K:=by
 unfold RK at h
 rw [hP] at h
 split at h
 · rename_i e hu
   refine Lo.here hk h ?_
   show aZ _ _ _ _ _ _ _ _ _ (.int .i64 ((LE.k 0).ev ρ))
   rw [LE.bp]
   exact aZ.KI (n:=0) hg ho hc hats hxa hu hx (.inl ⟨rfl,rfl⟩)
 · rename_i e y hu
   cases hf:oi s.ty y with
   | none=>rw [hf] at h; cases h
   | some p =>
     rw [hf] at h
     refine Lo.here hk h ?_
     show aZ _ _ _ _ _ _ _ _ _ (.int .i64 ((LE.a (.len y)).ev ρ))
     rw [LE.a9]
     refine aZ.KI (n:=(ρ y).ns.length) hg ho hc hats hxa hu hx ?_
     rcases (hk.ty (ia (c:=p.1) (g:=p.2) hf)).form with ⟨h1,h2⟩ | ⟨b,o,cp,h1⟩
     · have h2:(ρ y).ns=[]:=h2
       exact .inl ⟨h1,by rw [h2]; rfl⟩
     · exact .inr ⟨b,o,cp,h1⟩
 · rename_i y hu
   refine Lo.here hk h ?_
   show aZ _ _ _ _ _ _ _ _ _ (.int .i64 ((LE.a (.sl y)).ev ρ))
   rw [LE.a9]
   exact aZ.HU hg ho hc hats hxa hu hx
 · rename_i l m hu
   refine Lo.here hk h ?_
   show aZ _ _ _ _ _ _ _ _ _ (.int .i64 ((LE.k l).ev ρ))
   rw [LE.bp]
   exact aZ.HU hg ho hc hats hxa hu hx
 · cases h
end
end Go.Rd
