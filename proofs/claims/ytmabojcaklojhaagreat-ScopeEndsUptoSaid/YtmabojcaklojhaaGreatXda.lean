/- Part Xda of the proof of ScopeEnds: no condition. -/
import Derived.Test.YtmabojcaklojhaaGreatXad
set_option linter.unusedSimpArgs false
set_option linter.unusedVariables false
namespace Go.Rt
open Go.Rex Go.RowKit
inductive K2 where
 | int (k:IntKind) | nat (b:Nat) | str | strj | strb (b:Nat) | bool | flt (k:FloatKind)
 | sl (c:Nat) | slb (c b:Nat) | slg (c b:Nat) | slk (c b:Nat) | slf (c:Nat)
 | ptr (c:Nat) | ptn (c:Nat) | mp (c:Nat) | mpn (c:Nat) | bad
inductive MV where | kd (k:K2) | unit | atv (b:Nat) | fiv
structure Forms where
 ks:Nat->List K2
 ty:Nat->TypeId
 uni:Nat->Bool
 dep:Nat->Bool
 via:Nat->Bool
 pk:Nat->KK
 mv:Nat->MV
 raw:Nat->Bool
structure Gd where
 n:Nat->Nat
 at_:Nat->Nat->Option Nat
 fl:Nat->Nat
 fz:Bool
 sub:Nat
def Gd.d0:Gd:=⟨fun _=>0,fun _ _=>none,fun _=>0,false,0⟩
structure Gd.Le (a b:Gd):Prop where
 n:∀k,a.n k<=b.n k
 at_:∀l m j,a.at_ l m=some j->b.at_ l m=some j
 fz:a.fz=true->b=a
 sub:b.sub=a.sub
theorem Gd.Le.refl (a:Gd):a.Le a:=⟨fun _=>Nat.le_refl _,fun _ _ _ h=>h,fun _=>rfl,rfl⟩
theorem Gd.Le.trans {a b c:Gd} (h:a.Le b) (h':b.Le c):a.Le c:=⟨fun k=>Nat.le_trans (h.n k) (h'.n k),fun l m j e=>h'.at_ l m j (h.at_ l m j e),fun e=>by have:=h.fz e; subst this; exact h'.fz e,h'.sub.trans h.sub⟩
def WU:Nat:=2097152
def LIM:Nat:=2147483648
def SLIM:Nat:=1099511627776
def gi (Φ:Forms) (d:Gd) (g c:Nat):Nat:=bif Φ.via c then d.sub else bif Φ.dep c then g else 0
inductive TF where
 | sl (v:AV) (c g:Nat) (ns:List Nat)
 | pt (v:AV) (c g:Nat)
 | mp (v:AV) (c g:Nat)
   | el (v:AV) (c j off:Nat) (x:AV)
def TF.v:TF->AV | .sl v _ _ _=>v | .pt v _ _=>v | .mp v _ _=>v | .el v _ _ _ _=>v
def sw (Φ:Forms):TF->Nat
 | .sl _ c _ ns=>bif Φ.uni c then 0 else ns.sum+ns.length
 | _=>0
def wgt (Φ:Forms) (fs:List TF):Nat:=(fs.map (sw Φ)).sum
theorem wgt_append (Φ:Forms) (a b:List TF):wgt Φ (a++b)=wgt Φ a+wgt Φ b:=by simp [wgt]
def Kv (Φ:Forms) (d:Gd) (g j:Nat):K2->AV->List TF->Prop
 | .int k,v,f=>(∃z,v=.int k z)/\f=[]
 | .nat b,v,f=>(∃n:Nat,v=.int .i64 (.ofNat n)/\n<d.n b)/\f=[]
 | .str,v,f=>(∃l n,v=.str l n/\l<=SLIM)/\f=[]
 | .strj,v,f=>(∃l n,v=.str l n/\l<=SLIM/\d.at_ l n=some j)/\f=[]
 | .strb b,v,f=>(∃l n,v=.str l n/\l<=SLIM/\l<=b)/\f=[]
 | .bool,v,f=>(∃b,v=.bool b)/\f=[]
 | .flt k,v,f=>(∃b,v=.float k b)/\f=[]
 | .sl c,v,f=>∃ns,f=[.sl v c (gi Φ d g c) ns]
 | .slb c b,v,f=>∃ns:List Nat,f=[.sl v c (gi Φ d g c) ns]/\ns.length<=b
 | .slg c b,v,f=>∃ns:List Nat,f=[.sl v c (gi Φ d g c) ns]/\ns.length<=d.n b
 | .slk c b,v,f=>∃ns:List Nat,f=[.sl v c (gi Φ d g c) ns]/\d.fz=true/\ns.length=d.n b
 | .slf c,v,f=>∃ns:List Nat,f=[.sl v c (gi Φ d g c) ns]/\d.fz=true/\ns.length=d.fl j
 | .ptr c,v,f=>f=[.pt v c (gi Φ d g c)]
 | .ptn c,v,f=>(v=.nilp/\f=[])∨f=[.pt v c (gi Φ d g c)]
 | .mp c,v,f=>f=[.mp v c (gi Φ d g c)]
 | .mpn c,v,f=>(v=.nilmap/\f=[])∨f=[.mp v c (gi Φ d g c)]
 | .bad,_,_=>False
def WtS (Φ:Forms) (d:Gd) (g j:Nat):List K2->List AV->List TF->Prop
 | [],cs,fs=>cs=[]/\fs=[]
 | k::ks,cs,fs=>∃v cs' f fs',cs=v::cs'/\fs=f++fs'/\Kv Φ d g j k v f/\WtS Φ d g j ks cs' fs'
theorem gi_le {Φ:Forms} {d d':Gd} (h:d.Le d') (g c:Nat):gi Φ d' g c=gi Φ d g c:=by unfold gi; rw [h.sub]
theorem Kv.le {Φ:Forms} {d d':Gd} {g j:Nat} (h:d.Le d') {k:K2} {v:AV} {f:List TF} (hk:Kv Φ d g j k v f):Kv Φ d' g j k v f:=by
 cases k with
 | nat b=>obtain⟨⟨n,h1,h2⟩,h3⟩:=hk; exact⟨⟨n,h1,Nat.lt_of_lt_of_le h2 (h.n b)⟩,h3⟩
 | strj=>obtain⟨⟨l,n,h1,h0,h2⟩,h3⟩:=hk; exact⟨⟨l,n,h1,h0,h.at_ _ _ _ h2⟩,h3⟩
 | sl c=>obtain⟨ns,h1⟩:=hk; exact⟨ns,by rw [gi_le h]; exact h1⟩
 | slb c b=>obtain⟨ns,h1,h2⟩:=hk; exact⟨ns,by rw [gi_le h]; exact h1,h2⟩
 | slg c b=>obtain⟨ns,h1,h2⟩:=hk; exact⟨ns,by rw [gi_le h]; exact h1,Nat.le_trans h2 (h.n b)⟩
 | slk c b=>obtain⟨ns,h1,h2,h3⟩:=hk; have:=h.fz h2; subst this; exact⟨ns,h1,h2,h3⟩
 | slf c=>obtain⟨ns,h1,h2,h3⟩:=hk; have:=h.fz h2; subst this; exact⟨ns,h1,h2,h3⟩
 | ptr c=>show f=_; rw [gi_le h]; exact hk
 | ptn c=>rcases hk with hk | hk
          · exact .inl hk
          · exact .inr (by rw [gi_le h]; exact hk)
 | mp c=>show f=_; rw [gi_le h]; exact hk
 | mpn c=>rcases hk with hk | hk
          · exact .inl hk
          · exact .inr (by rw [gi_le h]; exact hk)
 | bad=>exact hk.elim
 | int k=>exact hk
 | str=>exact hk
 | strb b=>exact hk
 | bool=>exact hk
 | flt k=>exact hk
theorem WtS.le {Φ:Forms} {d d':Gd} {g j:Nat} (h:d.Le d'):∀{ks:List K2} {cs:List AV} {fs:List TF},WtS Φ d g j ks cs fs->WtS Φ d' g j ks cs fs
 | [],_,_,hk=>hk
 | k::ks,_,_,⟨v,cs',f,fs',h1,h2,h3,h4⟩=>⟨v,cs',f,fs',h1,h2,h3.le h,WtS.le h h4⟩
theorem WtS.len {Φ:Forms} {d:Gd} {g j:Nat}:∀{ks:List K2} {cs:List AV} {fs:List TF},WtS Φ d g j ks cs fs->cs.length=ks.length
 | [],_,_,⟨h,_⟩=>by subst h; rfl
 | k::ks,_,_,⟨v,cs',f,fs',h1,h2,h3,h4⟩=>by subst h1; simp [WtS.len h4]
theorem WtS.split {Φ:Forms} {d:Gd} {g j:Nat}:∀{ks ks':List K2} {cs:List AV} {fs:List TF},WtS Φ d g j (ks++ks') cs fs->∃f1 f2,fs=f1++f2/\WtS Φ d g j ks (cs.take ks.length) f1/\WtS Φ d g j ks' (cs.drop ks.length) f2
 | [],ks',cs,fs,h=>⟨[],fs,rfl,⟨by simp,rfl⟩,by simpa using h⟩
 | k::ks,ks',_,_,⟨v,cs',f,fs',h1,h2,h3,h4⟩=>by
   subst h1 h2
   obtain⟨f1,f2,e1,e2,e3⟩:=WtS.split h4
   exact⟨f++f1,f2,by rw [e1,List.append_assoc],⟨v,_,f,f1,rfl,rfl,h3,e2⟩,e3⟩
theorem WtS.join {Φ:Forms} {d:Gd} {g j:Nat}:∀{ks ks':List K2} {cs cs':List AV} {fs fs':List TF},WtS Φ d g j ks cs fs->WtS Φ d g j ks' cs' fs'->WtS Φ d g j (ks++ks') (cs++cs') (fs++fs')
 | [],ks',_,cs',_,fs',⟨h1,h2⟩,h=>by subst h1 h2; exact h
 | k::ks,ks',_,cs',_,fs',⟨v,cs1,f,fs1,h1,h2,h3,h4⟩,h=>by
   subst h1 h2
   exact⟨v,_,f,_,rfl,by rw [List.append_assoc],h3,WtS.join h4 h⟩
mutual
inductive RawT (P:Program) (Φ:Forms) (G:GH):Nat->Nat->List AV->Prop where
 | mk {m c:Nat} {cs:List AV} (fs:List TF) (h:∀j,WtS Φ Gd.d0 0 j (Φ.ks c) cs fs) (hw:wgt Φ fs=m) (hg:∀v c' g' ns,.sl v c' g' ns∈fs->g'=0) (hl:∀v c' g' ns,.sl v c' g' ns∈fs->ns.length<=LIM) (hf:∀v c' g' ns,.sl v c' g' ns∈fs->RawS P Φ G v c' ns) (hn:∀v c' g',.pt v c' g' ∉ fs/\.mp v c' g' ∉ fs):RawT P Φ G m c cs
inductive RawS (P:Program) (Φ:Forms) (G:GH):AV->Nat->List Nat->Prop where
 | nil {c:Nat}:RawS P Φ G .nils c []
 | emp {c b o cp:Nat} (hu:Φ.uni c=false):RawS P Φ G (.rsl b o 0 cp) c []
 | blk {b o cap size c:Nat} {el:TypeId} {C:List AV} {ns:List Nat} (hb:G b=some (.cells .raw el size C)) (hu:Φ.uni c=false) (hl:o+ns.length*szOf P (Φ.ty c)<=C.length)
   (h:∀(j m:Nat),ns[j]?=some m->RawT P Φ G m c ((C.drop (o+j*szOf P (Φ.ty c))).take (szOf P (Φ.ty c)))):RawS P Φ G (.rsl b o ns.length cap) c ns
end
structure RawLe (G G':GH):Prop where
 raw:∀b el size C,G b=some (.cells .raw el size C)->G' b=G b
 dat:∀b el size C,G b=some (.cells .data el size C)->∃C',G' b=some (.cells .data el size C')
theorem RawLe.refl (G:GH):RawLe G G:=⟨fun _ _ _ _ _=>rfl,fun _ _ _ C h=>⟨C,h⟩⟩
mutual
theorem RawT.le {P:Program} {Φ:Forms} {G G':GH} (hg:RawLe G G'):∀{m c:Nat} {cs:List AV},RawT P Φ G m c cs->RawT P Φ G' m c cs
 | _,_,_,.mk fs h hw h0 hl hf hn=>.mk fs h hw h0 hl (fun v c' g' ns hm=>(hf v c' g' ns hm).le hg) hn
theorem RawS.le {P:Program} {Φ:Forms} {G G':GH} (hg:RawLe G G'):∀{v:AV} {c:Nat} {ns:List Nat},RawS P Φ G v c ns->RawS P Φ G' v c ns
 | _,_,_,.nil=>.nil
 | _,_,_,.emp hu=>.emp hu
 | _,_,_,.blk hb hu hl h=>.blk (by rw [hg.raw _ _ _ _ hb]; exact hb) hu hl fun j m hj=>(h j m hj).le hg
end
inductive Ds where
 | cells (c g:Nat) (L:List Nat)
 | map (c g:Nat)
structure Gam where
 m:Nat->Option Ds
 gd:Nat->Gd
 ng:Nat
def TOk (P:Program) (Φ:Forms) (G:GH) (Γ:Gam):TF->Prop
 | .sl v c g ns=>ns.length<=LIM/\((v=.nils/\ns=[])∨(g=0/\RawS P Φ G v c ns)∨∃b cap L size C,v=.rsl b 0 ns.length cap/\Γ.m b=some (.cells c g L)/\ns=L.take ns.length/\G b=some (.cells .data (Φ.ty c) size C)/\cap*szOf P (Φ.ty c)<=size/\ns.length<=cap)
 | .pt v c g=>∃b L,v=.rpt b 0/\Γ.m b=some (.cells c g L)/\0<L.length
 | .mp v c g=>∃b,v=.rmp b/\Γ.m b=some (.map c g)
 | .el v c j off x=>∃b o l cap el size C,v=.rsl b o l cap/\j<l/\G b=some (.cells .raw el size C)/\o+l*szOf P (Φ.ty c)<=C.length/\off<szOf P (Φ.ty c)/\C[o+j*szOf P (Φ.ty c)+off]?=some x
def ElOk (P:Program) (Φ:Forms) (G:GH) (Γ:Gam) (m c g j:Nat) (cs:List AV):Prop:=∃fs,WtS Φ (Γ.gd g) g j (Φ.ks c) cs fs/\wgt Φ fs<=m/\∀f∈fs,TOk P Φ G Γ f
def MapOk (P:Program) (Φ:Forms) (G:GH) (Γ:Gam) (c g:Nat) (es:List (AV × AV)):Prop :=
 (∀p∈es,KeyF (Φ.pk c) p.1)/\match Φ.mv c with
 | .kd k=>∀p∈es,∃fs,Kv Φ (Γ.gd g) g 0 k p.2 fs/\∀f∈fs,TOk P Φ G Γ f
 | .unit=>∀p∈es,p.2=.agg []
 | .atv b=>Φ.pk c=.str/\(Γ.gd g).fz=true/\(∀l n,findA (.str l n) es=((Γ.gd g).at_ l n).map fun j=>.int .i64 (.ofNat j))/\∀l n j,(Γ.gd g).at_ l n=some j->j<(Γ.gd g).n b
 | .fiv=>Φ.pk c=.pair/\(Γ.gd g).fz=true/\(∀l n l' n',strEq l n l' n'=true->(Γ.gd g).at_ l n=(Γ.gd g).at_ l' n')/\∀p∈es,∃l n l' n' k j,p.1=.agg [.str l n,.str l' n']/\p.2=.int .i64 (.ofNat k)/\(Γ.gd g).fz=true/\(Γ.gd g).at_ l n=some j/\k<(Γ.gd g).fl j
def DsOk (P:Program) (Φ:Forms) (G:GH) (Γ:Gam) (b:Nat):Ds->Prop
 | .cells c g L=>(g<Γ.ng/\Φ.raw c=false)/\(Φ.uni c=true->∀m∈L,m=WU)/\∃size C,G b=some (.cells .data (Φ.ty c) size C)/\C.length=L.length*szOf P (Φ.ty c)/\∀j m,L[j]?=some m->ElOk P Φ G Γ m c g j ((C.drop (j*szOf P (Φ.ty c))).take (szOf P (Φ.ty c)))
 | .map c g=>g<Γ.ng/\∃es,G b=some (.map es)/\(∀p∈es,nf p.2)/\MapOk P Φ G Γ c g es
structure HT (P:Program) (Φ:Forms) (G:GH) (Γ:Gam):Prop where
 z:Γ.gd 0=Gd.d0/\0<Γ.ng
 b:∀b x,Γ.m b=some x->DsOk P Φ G Γ b x
def DsLe:Ds->Ds->Prop
 | .cells c g L,.cells c' g' L'=>c'=c/\g'=g/\∃M,L'=L++M
 | .map c g,.map c' g'=>c'=c/\g'=g
 | _,_=>False
theorem DsLe.refl (x:Ds):DsLe x x:=by cases x with
 | cells c g L=>exact⟨rfl,rfl,[],by simp⟩
 | map c g=>exact⟨rfl,rfl⟩
theorem DsLe.trans {x y z:Ds} (h:DsLe x y) (h':DsLe y z):DsLe x z:=by
 cases x with
 | cells c g L=>cases y with
   | cells c1 g1 L1=>cases z with
     | cells c2 g2 L2=>obtain⟨rfl,rfl,M,rfl⟩:=h; obtain⟨rfl,rfl,M',rfl⟩:=h'; exact⟨rfl,rfl,M++M',by rw [List.append_assoc]⟩
     | map=>exact h'.elim
   | map=>exact h.elim
 | map c g=>cases y with
   | cells=>exact h.elim
   | map c1 g1=>cases z with
     | cells=>exact h'.elim
     | map=>obtain⟨rfl,rfl⟩:=h; exact h'
structure GamLe (Γ Γ':Gam):Prop where
 m:∀b x,Γ.m b=some x->∃y,Γ'.m b=some y/\DsLe x y
 gd:∀g,g<Γ.ng->(Γ.gd g).Le (Γ'.gd g)
 ng:Γ.ng<=Γ'.ng
theorem GamLe.refl (Γ:Gam):GamLe Γ Γ:=⟨fun b x h=>⟨x,h,DsLe.refl x⟩,fun g _=>Gd.Le.refl _,Nat.le_refl _⟩
theorem GamLe.trans {Γ1 Γ2 Γ3:Gam} (h:GamLe Γ1 Γ2) (h':GamLe Γ2 Γ3):GamLe Γ1 Γ3:=⟨fun b x hb=>by
 obtain⟨y,h1,h2⟩:=h.m _ _ hb
 obtain⟨z,h3,h4⟩:=h'.m _ _ h1
 exact⟨z,h3,h2.trans h4⟩,fun g hg=>(h.gd g hg).trans (h'.gd g (Nat.lt_of_lt_of_le hg h.ng)),Nat.le_trans h.ng h'.ng⟩
theorem GamLe.cells {Γ Γ':Gam} (h:GamLe Γ Γ') {b c g:Nat} {L:List Nat} (hb:Γ.m b=some (.cells c g L)):∃M,Γ'.m b=some (.cells c g (L++M)):=by
 obtain⟨y,h1,h2⟩:=h.m _ _ hb
 cases y with
 | cells c' g' L'=>obtain⟨rfl,rfl,M,rfl⟩:=h2; exact⟨M,h1⟩
 | map=>exact h2.elim
theorem GamLe.map {Γ Γ':Gam} (h:GamLe Γ Γ') {b c g:Nat} (hb:Γ.m b=some (.map c g)):Γ'.m b=some (.map c g):=by
 obtain⟨y,h1,h2⟩:=h.m _ _ hb
 cases y with
 | cells=>exact h2.elim
 | map c' g'=>obtain⟨rfl,rfl⟩:=h2; exact h1
theorem TOk.le {P:Program} {Φ:Forms} {G G':GH} {Γ Γ':Gam} {f:TF} (h:TOk P Φ G Γ f) (hg:RawLe G G') (hl:GamLe Γ Γ'):TOk P Φ G' Γ' f:=by
 cases f with
 | sl v c g ns =>
   obtain⟨hlim,h⟩:=h
   refine⟨hlim,?_⟩
   rcases h with h | ⟨h0,h⟩ | ⟨b,cap,L,size,C,h1,h2,h3,h5,h6⟩
   · exact .inl h
   · exact .inr (.inl ⟨h0,h.le hg⟩)
   · obtain⟨M,h4⟩:=hl.cells h2
     obtain⟨C',h5⟩:=hg.dat _ _ _ _ h5
     refine .inr (.inr ⟨b,cap,L++M,size,C',h1,h4,?_,h5,h6⟩)
     have:ns.length<=L.length:=by
      have:=congrArg List.length h3
      rw [List.length_take] at this
      omega
     rw [List.take_append_of_le_length this]
     exact h3
 | pt v c g =>
   obtain⟨b,L,h1,h2,h3⟩:=h
   obtain⟨M,h4⟩:=hl.cells h2
   exact⟨b,L++M,h1,h4,by rw [List.length_append]; omega⟩
 | mp v c g =>
   obtain⟨b,h1,h2⟩:=h
   exact⟨b,h1,hl.map h2⟩
 | el v c j off x =>
   obtain⟨b,o,l,cap,el,size,C,h1,h2,h3,h4⟩:=h
   exact⟨b,o,l,cap,el,size,C,h1,h2,by rw [hg.raw _ _ _ _ h3]; exact h3,h4⟩
theorem ElOk.le {P:Program} {Φ:Forms} {G G':GH} {Γ Γ':Gam} {m c g j:Nat} {cs:List AV} (h:ElOk P Φ G Γ m c g j cs) (hg:RawLe G G') (hl:GamLe Γ Γ') (hlt:g<Γ.ng):ElOk P Φ G' Γ' m c g j cs:=by
 obtain⟨fs,h1,h2,h3⟩:=h
 exact⟨fs,h1.le (hl.gd g hlt),h2,fun f hf=>(h3 f hf).le hg hl⟩
theorem ElOk.more {P:Program} {Φ:Forms} {G:GH} {Γ:Gam} {m m' c g j:Nat} {cs:List AV} (h:ElOk P Φ G Γ m c g j cs) (hm:m<=m'):ElOk P Φ G Γ m' c g j cs:=by
 obtain⟨fs,h1,h2,h3⟩:=h
 exact⟨fs,h1,by omega,h3⟩
theorem Kv.noel {Φ:Forms} {d:Gd} {g j:Nat} {k:K2} {v:AV} {f:List TF} (h:Kv Φ d g j k v f) (u:AV) (c i o:Nat) (x:AV):TF.el u c i o x ∉ f:=by
 have no:∀y:TF,(∀u c i o x,y≠.el u c i o x)->f=[y]->TF.el u c i o x ∉ f:=fun y hy e hm=>by
  rw [e] at hm; exact hy _ _ _ _ _ (List.mem_singleton.1 hm).symm
 cases k with
 | sl c=>obtain⟨ns,h⟩:=h; exact no _ (fun _ _ _ _ _ e=>by cases e) h
 | slb c b=>obtain⟨ns,h,_⟩:=h; exact no _ (fun _ _ _ _ _ e=>by cases e) h
 | slg c b=>obtain⟨ns,h,_⟩:=h; exact no _ (fun _ _ _ _ _ e=>by cases e) h
 | slk c b=>obtain⟨ns,h,_⟩:=h; exact no _ (fun _ _ _ _ _ e=>by cases e) h
 | slf c=>obtain⟨ns,h,_⟩:=h; exact no _ (fun _ _ _ _ _ e=>by cases e) h
 | ptr c=>exact no _ (fun _ _ _ _ _ e=>by cases e) h
 | mp c=>exact no _ (fun _ _ _ _ _ e=>by cases e) h
 | ptn c=>rcases h with ⟨_,h⟩ | h
          · rw [h]; exact fun h=>by cases h
          · exact no _ (fun _ _ _ _ _ e=>by cases e) h
 | mpn c=>rcases h with ⟨_,h⟩ | h
          · rw [h]; exact fun h=>by cases h
          · exact no _ (fun _ _ _ _ _ e=>by cases e) h
 | bad=>exact h.elim
 | _=>rw [h.2]; exact fun h=>by cases h
theorem WtS.noel {Φ:Forms} {d:Gd} {g j:Nat} (u:AV) (c i o:Nat) (x:AV):∀{ks:List K2} {cs:List AV} {fs:List TF},WtS Φ d g j ks cs fs->TF.el u c i o x ∉ fs
 | [],_,_,⟨_,h⟩=>by rw [h]; exact fun h=>by cases h
 | k::ks,_,_,⟨v,cs',f,fs',h1,h2,h3,h4⟩=>by
   subst h1 h2
   intro hm
   rcases List.mem_append.1 hm with hm | hm
   · exact h3.noel u c i o x hm
   · exact WtS.noel u c i o x h4 hm
theorem RawT.el {P:Program} {Φ:Forms} {G:GH} {Γ:Gam} {m c:Nat} {cs:List AV} (h:RawT P Φ G m c cs) (hz:Γ.gd 0=Gd.d0) (j:Nat):ElOk P Φ G Γ m c 0 j cs:=by
 cases h with
 | mk fs h hw h0 hl hf hn =>
   refine⟨fs,by rw [hz]; exact h j,Nat.le_of_eq hw,fun f hm=>?_⟩
   cases f with
   | sl v c' g' ns=>exact⟨hl v c' g' ns hm,.inr (.inl ⟨h0 v c' g' ns hm,hf v c' g' ns hm⟩)⟩
   | pt v c' g'=>exact absurd hm (hn v c' g').1
   | mp v c' g'=>exact absurd hm (hn v c' g').2
   | el v c' i o x=>exact absurd hm ((h 0).noel v c' i o x)
theorem RawT.elE {P:Program} {Φ:Forms} {G:GH} {Γ:Gam} {m c:Nat} {cs:List AV} (h:RawT P Φ G m c cs) (hz:Γ.gd 0=Gd.d0) (j:Nat):∃fs,WtS Φ (Γ.gd 0) 0 j (Φ.ks c) cs fs/\wgt Φ fs=m/\∀f∈fs,TOk P Φ G Γ f:=by
 cases h with
 | mk fs h hw h0 hl hf hn =>
   refine⟨fs,by rw [hz]; exact h j,hw,fun f hm=>?_⟩
   cases f with
   | sl v c' g' ns=>exact⟨hl v c' g' ns hm,.inr (.inl ⟨h0 v c' g' ns hm,hf v c' g' ns hm⟩)⟩
   | pt v c' g'=>exact absurd hm (hn v c' g').1
   | mp v c' g'=>exact absurd hm (hn v c' g').2
   | el v c' i o x=>exact absurd hm ((h 0).noel v c' i o x)
theorem take_len {α:Type} {ns L:List α} (h:ns=L.take ns.length):ns.length<=L.length:=by
 have:=congrArg List.length h
 rw [List.length_take] at this
 omega
theorem TOk.atE {P:Program} {Φ:Forms} {G:GH} {Γ:Gam} {v:AV} {c g:Nat} {ns:List Nat} {j m:Nat} (h:TOk P Φ G Γ (.sl v c g ns)) (ht:HT P Φ G Γ) (hj:ns[j]?=some m) :
  ∃b o cap kd el size C,v=.rsl b o ns.length cap/\G b=some (.cells kd el size C)/\o+j*szOf P (Φ.ty c)+szOf P (Φ.ty c)<=C.length/\ElOk P Φ G Γ m c g j ((C.drop (o+j*szOf P (Φ.ty c))).take (szOf P (Φ.ty c))) /\
   (Φ.raw c=true->∃fs,WtS Φ (Γ.gd g) g j (Φ.ks c) ((C.drop (o+j*szOf P (Φ.ty c))).take (szOf P (Φ.ty c))) fs/\wgt Φ fs=m/\∀f∈fs,TOk P Φ G Γ f):=by
 have hlt:j<ns.length:=(List.getElem?_eq_some_iff.1 hj).1
 have hmul:∀n,j<n->j*szOf P (Φ.ty c)+szOf P (Φ.ty c)<=n*szOf P (Φ.ty c):=fun n hn=>by
  have:(j+1)*szOf P (Φ.ty c)<=n*szOf P (Φ.ty c):=Nat.mul_le_mul_right _ hn
  rwa [Nat.succ_mul] at this
 obtain⟨hlim,h⟩:=h
 rcases h with ⟨_,h⟩ | ⟨h0,h⟩ | ⟨b,cap,L,size0,C0,h1,h2,h3,_⟩
 · rw [h] at hj; simp at hj
 · subst h0
   cases h with
   | nil=>simp at hj
   | emp hu=>simp at hj
   | @blk b o cap size _ el C _ hb hu hl h =>
     have:=hmul ns.length hlt
     exact⟨b,o,cap,.raw,el,size,C,rfl,hb,by omega,(h j m hj).el ht.z.1 j,fun _=>(h j m hj).elE ht.z.1 j⟩
 · obtain⟨⟨_,hr⟩,_,size,C,q1,q2,q3⟩:=ht.b _ _ h2
   have hle:=take_len h3
   have hL:L[j]?=some m:=by
    rw [h3,List.getElem?_take] at hj
    rw [if_pos hlt] at hj
    exact hj
   refine⟨b,0,cap,.data,Φ.ty c,size,C,h1,q1,?_,?_,fun h=>by rw [hr] at h; cases h⟩
   · have:=hmul L.length (by omega)
     rw [q2]; omega
   · rw [Nat.zero_add]; exact q3 j m hL
theorem TOk.deref {P:Program} {Φ:Forms} {G:GH} {Γ:Gam} {v:AV} {c g:Nat} (h:TOk P Φ G Γ (.pt v c g)) (ht:HT P Φ G Γ):∃b L m size C,v=.rpt b 0/\Γ.m b=some (.cells c g L)/\L[0]?=some m/\G b=some (.cells .data (Φ.ty c) size C)/\C.length=L.length*szOf P (Φ.ty c)/\szOf P (Φ.ty c)<=C.length/\ElOk P Φ G Γ m c g 0 (C.take (szOf P (Φ.ty c))):=by
 obtain⟨b,L,h1,h2,h3⟩:=h
 obtain⟨_,_,size,C,q1,q2,q3⟩:=ht.b _ _ h2
 have hL:L[0]?=some L[0]:=List.getElem?_eq_getElem h3
 have:=q3 0 _ hL
 rw [Nat.zero_mul,List.drop_zero] at this
 have hmul:1*szOf P (Φ.ty c)<=L.length*szOf P (Φ.ty c):=Nat.mul_le_mul_right _ h3
 exact⟨b,L,_,size,C,h1,h2,hL,q1,q2,by omega,this⟩
theorem TOk.form {P:Program} {Φ:Forms} {G:GH} {Γ:Gam} {v:AV} {c g:Nat} {ns:List Nat} (h:TOk P Φ G Γ (.sl v c g ns)):(v=.nils/\ns=[])∨∃b o cp,v=.rsl b o ns.length cp:=by
 obtain⟨hlim,h⟩:=h
 rcases h with h | ⟨h0,h⟩ | ⟨b,cap,L,size0,C0,h1,_⟩
 · exact .inl h
 · cases h with
   | nil=>exact .inl ⟨rfl,rfl⟩
   | emp hu=>exact .inr ⟨_,_,_,rfl⟩
   | blk hb hu hl h=>exact .inr ⟨_,_,_,rfl⟩
 · exact .inr ⟨b,0,cap,h1⟩
inductive Own where
  | loc (b:Nat) (el:TypeId) (C:List AV)
  | lst (v:AV) (c:Nat) (ms:List Nat)
  | map (b:Nat) (pk:KK) (es:List (AV × AV))
  | ul (v:AV) (c g n:Nat)
  | am (b g k:Nat)
  | im (b k:Nat)
  | bl (v:AV) (el:TypeId) (ms:List Nat)
def slBlk:AV->Option Nat
 | .rsl b _ _ _=>some b
 | _=>none
def Own.blk:Own->Option Nat
 | .loc b _ _=>some b
 | .lst v _ _=>slBlk v
 | .map b _ _=>some b
 | .ul v _ _ _=>slBlk v
 | .am b _ _=>some b
 | .im b _=>some b
 | .bl v _ _=>slBlk v
def Own.inst:Own->Option Nat
 | .am _ g _=>some g
 | _=>none
def blks (os:List Own):List Nat:=os.filterMap Own.blk
def OwnOk (P:Program) (Φ:Forms) (G:GH) (Γ:Gam):Own->Prop
 | .loc b el C=>G b=some (.cells .loc el C.length C)/\Γ.m b=none
 | .lst v c ms=>Φ.uni c=false/\ms.length<=LIM/\((v=.nils/\ms=[])∨∃b cap size C,v=.rsl b 0 ms.length cap/\Γ.m b=some (.cells c 0 ms)/\G b=some (.cells .data (Φ.ty c) size C)/\cap*szOf P (Φ.ty c)<=size/\ms.length<=cap)
 | .map b pk es=>G b=some (.map es)/\Γ.m b=none/\∀p∈es,KeyF pk p.1
 | .ul v c g n=>g<Γ.ng/\n<=LIM/\((v=.nils/\n=0)∨∃b cap size C,v=.rsl b 0 n cap/\Γ.m b=none/\G b=some (.cells .data (Φ.ty c) size C)/\C.length=n*szOf P (Φ.ty c)/\cap*szOf P (Φ.ty c)<=size/\n<=cap/\∀j,j<n->ElOk P Φ G Γ WU c g j ((C.drop (j*szOf P (Φ.ty c))).take (szOf P (Φ.ty c))))
 | .am b g k=>Γ.m b=none/\g<Γ.ng/\(∀l n j,(Γ.gd g).at_ l n=some j->j<(Γ.gd g).n k)/\∃es,G b=some (.map es)/\(∀p∈es,KeyF .str p.1/\nf p.2)/\∀l n,findA (.str l n) es=((Γ.gd g).at_ l n).map fun j=>.int .i64 (.ofNat j)
 | .im b k=>Γ.m b=none/\∃es,G b=some (.map es)/\∀p∈es,KeyF .str p.1/\∃n:Nat,p.2=.int .i64 (.ofNat n)/\n<k
 | .bl v el ms=>ms.length<=LIM/\(∀m∈ms,m<=1)/\∃b size,v=.rsl b 0 ms.length ms.length/\Γ.m b=none/\G b=some (.cells .data el size (ms.map fun m=>.bool (Nat.beq m 0)))
def Ds.fixed (Φ:Forms):Ds->Bool
 | .cells c _ _=>!Φ.uni c
 | .map _ _=>false
structure Rl (Φ:Forms) (S Sg:List Nat) (G:GH) (Γ:Gam) (G':GH) (Γ':Gam):Prop where
 g:∀b,(G b).isSome=true->b ∉ S->Γ.m b=none->G' b=G b/\Γ'.m b=none
 r:RawLe G G'
 t:∀b x,Γ.m b=some x->x.fixed Φ=true->b ∉ S->Γ'.m b=some x
 le:GamLe Γ Γ'
 gs:∀g,g<Γ.ng->g ∉ Sg->Γ'.gd g=Γ.gd g
 dom:∀b,(G b).isSome=true->(G' b).isSome=true
theorem Rl.refl (Φ:Forms) (S Sg:List Nat) (G:GH) (Γ:Gam):Rl Φ S Sg G Γ G Γ:=⟨fun _ _ _ h=>⟨rfl,h⟩,RawLe.refl _,fun _ _ h _ _=>h,GamLe.refl _,fun _ _ _=>rfl,fun _ h=>h⟩
theorem DsOk.told {P:Program} {Φ:Forms} {G:GH} {Γ:Gam} {b:Nat} {x:Ds} (h:DsOk P Φ G Γ b x):(G b).isSome=true:=by
 cases x with
 | cells c g L=>obtain⟨_,_,size,C,h,_⟩:=h; rw [h]; rfl
 | map c g=>obtain⟨_,es,h,_⟩:=h; rw [h]; rfl
theorem Rl.trans {Φ:Forms} {P:Program} {S S1 Sg Sg1:List Nat} {G G1 G2:GH} {Γ Γ1 Γ2:Gam} (ht:∀b x,Γ.m b=some x->(G b).isSome=true) (h:Rl Φ S Sg G Γ G1 Γ1) (h':Rl Φ S1 Sg1 G1 Γ1 G2 Γ2) (hs:∀b∈S1,b∈S∨G b=none) (hg:∀g∈Sg1,g∈Sg∨Γ.ng<=g):Rl Φ S Sg G Γ G2 Γ2:=by
 have no:∀b,(G b).isSome=true->b ∉ S->b ∉ S1:=fun b hb hn hm=>(hs b hm).elim hn fun e=>by rw [e] at hb; cases hb
 refine⟨fun b hb hn h0=>?_,⟨fun b el size C hb=>?_,fun b el size C hb=>?_⟩,fun b x hx hu hn=>?_,h.le.trans h'.le,fun g hlt hn=>?_,fun b hb=>h'.dom b (h.dom b hb)⟩
 · obtain⟨e1,e2⟩:=h.g b hb hn h0
   obtain⟨e3,e4⟩:=h'.g b (h.dom b hb) (no b hb hn) e2
   exact⟨e3.trans e1,e4⟩
 · have:=h.r.raw b el size C hb
   rw [h'.r.raw b el size C (by rw [this]; exact hb),this]
 · obtain⟨C1,h1⟩:=h.r.dat b el size C hb
   exact h'.r.dat b el size C1 h1
 · exact h'.t b x (h.t b x hx hu hn) hu (no b (ht b x hx) hn)
 · rw [h'.gs g (Nat.lt_of_lt_of_le hlt h.le.ng) (fun hm=>(hg g hm).elim hn fun e=>absurd hlt (by omega)),h.gs g hlt hn]
theorem OwnOk.keep {P:Program} {Φ:Forms} {S Sg:List Nat} {G G':GH} {Γ Γ':Gam} {o:Own} (h:OwnOk P Φ G Γ o) (hr:Rl Φ S Sg G Γ G' Γ') (hn:∀b,o.blk=some b->b ∉ S) (hi:∀g,o.inst=some g->Γ'.gd g=Γ.gd g):OwnOk P Φ G' Γ' o:=by
 cases o with
 | loc b el C =>
   obtain⟨h,h0⟩:G b=_/\Γ.m b=none:=h
   obtain⟨e1,e2⟩:=hr.g b (by rw [h]; rfl) (hn b rfl) h0
   exact⟨by rw [e1]; exact h,e2⟩
 | map b pk es =>
   obtain⟨h,h0,hk⟩:G b=_/\Γ.m b=none/\_:=h
   obtain⟨e1,e2⟩:=hr.g b (by rw [h]; rfl) (hn b rfl) h0
   exact⟨by rw [e1]; exact h,e2,hk⟩
 | lst v c ms =>
   obtain⟨hu,hlim,h⟩:=h
   refine⟨hu,hlim,?_⟩
   rcases h with h | ⟨b,cap,size,C,h1,h2,h3,h4⟩
   · exact .inl h
   · have hb:b ∉ S:=hn b (by rw [h1]; rfl)
     obtain⟨C',hC'⟩:=hr.r.dat b _ _ _ h3
     exact .inr ⟨b,cap,size,C',h1,hr.t b _ h2 (by simp [Ds.fixed,hu]) hb,hC',h4⟩
 | ul v c g n =>
   obtain⟨hg,hlim,h⟩:=h
   refine⟨Nat.lt_of_lt_of_le hg hr.le.ng,hlim,?_⟩
   rcases h with h | ⟨b,cap,size,C,h1,h2,h3,h4,h5,h6,h7⟩
   · exact .inl h
   · obtain⟨e1,e2⟩:=hr.g b (by rw [h3]; rfl) (hn b (by rw [h1]; rfl)) h2
     exact .inr ⟨b,cap,size,C,h1,e2,by rw [e1]; exact h3,h4,h5,h6,fun j hj=>(h7 j hj).le hr.r hr.le hg⟩
 | am b g k =>
   obtain⟨h0,hg,hk,es,h1,h2,h3⟩:=h
   obtain⟨e1,e2⟩:=hr.g b (by rw [h1]; rfl) (hn b rfl) h0
   have e3:=hi g rfl
   exact⟨e2,Nat.lt_of_lt_of_le hg hr.le.ng,by rw [e3]; exact hk,es,by rw [e1]; exact h1,h2,by rw [e3]; exact h3⟩
 | im b k =>
   obtain⟨h0,es,h1,h2⟩:=h
   obtain⟨e1,e2⟩:=hr.g b (by rw [h1]; rfl) (hn b rfl) h0
   exact⟨e2,es,by rw [e1]; exact h1,h2⟩
 | bl v el ms =>
   obtain⟨hlim,hm,b,size,h1,h2,h3⟩:=h
   obtain⟨e1,e2⟩:=hr.g b (by rw [h3]; rfl) (hn b (by rw [h1]; rfl)) h2
   exact⟨hlim,hm,b,size,h1,e2,by rw [e1]; exact h3⟩
def lk:List (Nat × AV)->Nat->Option AV
 | [],_=>none
 | p::l,k=>bif Nat.beq p.1 k then some p.2 else lk l k
structure St where
 L:List (Nat × AV)
 os:List Own
 tys:List TF
 gs:List (Nat × Gd × Bool)
structure Cx where
 P:Program
 Φ:Forms
 n0:Nat
 nt:Nat
 S:List Nat
 Sg:List Nat
 G0:GH
 Γ0:Gam
structure Q (c:Cx) (T:Tm) (G:GH) (Γ:Gam) (st:St):Prop where
 ml:T.ml=[]
 at_:∀k v,lk st.L k=some v->T.at k=v
 ht0:∀b x,c.Γ0.m b=some x->(c.G0 b).isSome=true
 rl:Rl c.Φ c.S c.Sg c.G0 c.Γ0 G Γ
 grow:Grow c.n0 c.G0 G
 own:∀o∈st.os,OwnOk c.P c.Φ G Γ o
 new:∀o∈st.os,∀b,o.blk=some b->b∈c.S∨c.G0 b=none
 nd:(blks st.os).Nodup
 ht:HT c.P c.Φ G Γ
 ty:∀f∈st.tys,TOk c.P c.Φ G Γ f
 gs:∀p∈st.gs,p.1<Γ.ng/\Γ.gd p.1=p.2.1/\(p.2.2=true->(p.1∈c.Sg∨c.Γ0.ng<=p.1)/\p.2.1.fz=false/\0<p.1)
def St.put (st:St) (d:Nat) (v:AV):St:=⟨(d,v)::st.L,st.os,st.tys,st.gs⟩
section
variable {c:Cx} {ops:Array Oper} {lig ce ch:List Nat} {i m d f:Nat} {T:Tm} {G:GH} {Γ:Gam} {st st':St} {v:AV} {K:Ex->St->Prop} {Kd:St->Prop} {co:Code}
theorem lk_cons (k:Nat) (p:Nat × AV) (l:List (Nat × AV)):lk (p::l) k=if p.1=k then some p.2 else lk l k:=by
 show (bif Nat.beq p.1 k then some p.2 else lk l k)=_
 by_cases h:p.1=k
 · subst h; simp
 · rw [if_neg h]
   cases hb:Nat.beq p.1 k with
   | true=>exact absurd (Nat.eq_of_beq_eq_true hb) h
   | false=>rfl
theorem Q.put (h:Q c T G Γ st) (d:Nat) (v:AV):Q c (T.put d v) G Γ (st.put d v):=by
 refine⟨by rw [Tm.put_ml]; exact h.ml,fun k u hk=>?_,h.ht0,h.rl,h.grow,h.own,h.new,h.nd,h.ht,h.ty,h.gs⟩
 rw [show (st.put d v).L=(d,v)::st.L from rfl,lk_cons] at hk
 by_cases e:d=k
 · subst e; rw [if_pos rfl] at hk; rw [Tm.at_put_same]; exact Option.some.inj hk
 · rw [if_neg e] at hk; rw [Tm.at_put_ne (fun h=>e h.symm)]; exact h.at_ k u hk
theorem Q.weak (h:Q c T G Γ st) (h1:∀k v,lk st'.L k=some v->lk st.L k=some v) (h2:∃rest,st.os.Perm (st'.os++rest)) (h3:∀f∈st'.tys,f∈st.tys) (h4:∀p∈st'.gs,p∈st.gs):Q c T G Γ st':=by
 obtain⟨rest,hp⟩:=h2
 have hm:∀o∈st'.os,o∈st.os:=fun o ho=>hp.mem_iff.2 (by simp [ho])
 refine⟨h.ml,fun k v hk=>h.at_ k v (h1 k v hk),h.ht0,h.rl,h.grow,fun o ho=>h.own o (hm o ho),fun o ho=>h.new o (hm o ho),?_,h.ht,fun f hf=>h.ty f (h3 f hf),fun p hp=>h.gs p (h4 p hp)⟩
 have:=(hp.filterMap Own.blk).nodup_iff.1 h.nd
 rw [List.filterMap_append,List.nodup_append] at this
 exact this.1
end
end Go.Rt
namespace Go.Rd
open Go.Rex Go.RowKit Go.Rt
inductive U where
 | n (x:Nat) | z (x:Int) | b (x:Bool) | s (l m:Nat) | v (x:AV) (ns:List Nat) | g (d:Gd)
def U.nn:U->Nat | .n x=>x | _=>0
def U.zz:U->Int | .z x=>x | _=>0
def U.bb:U->Bool | .b x=>x | _=>false
def U.sl:U->Nat | .s l _=>bif Nat.ble l SLIM then l else 0 | _=>0
theorem U.sl_of {l m:Nat} (h:l<=SLIM):(U.s l m).sl=l:=by show (bif Nat.ble l SLIM then l else 0)=l; rw [Nat.ble_eq_true_of_le h]; rfl
theorem U.sl_lim (u:U):u.sl<=SLIM:=by
 cases u with
 | s l m =>
   show (bif Nat.ble l SLIM then l else 0)<=SLIM
   cases h:Nat.ble l SLIM with
   | true=>exact ble_ok h
   | false=>exact Nat.zero_le _
 | _=>exact Nat.zero_le _
def U.sm:U->Nat | .s _ m=>m | _=>0
def isRefA:AV->Bool
 | .nils=>true | .rsl _ _ _ _=>true | .nilp=>true | .rpt _ _=>true | .nilmap=>true | .rmp _=>true
 | _=>false
def U.vv:U->AV | .v x _=>bif isRefA x then x else .nils | _=>.nils
theorem U.vv_ref (u:U):isRefA u.vv=true:=by
 cases u with
 | v x l =>
   show isRefA (bif isRefA x then x else .nils)=true
   cases h:isRefA x with
   | true=>exact h
   | false=>rfl
 | _=>rfl
theorem U.vv_of {x:AV} {l:List Nat} (h:isRefA x=true):(U.v x l).vv=x:=by show (bif isRefA x then x else .nils)=x; rw [h]; rfl
def U.ns:U->List Nat | .v _ l=>bif Nat.ble l.length LIM then l else [] | _=>[]
theorem U.ns_of {x:AV} {l:List Nat} (h:l.length<=LIM):(U.v x l).ns=l:=by show (bif Nat.ble l.length LIM then l else [])=l; rw [Nat.ble_eq_true_of_le h]; rfl
theorem U.ns_lim (u:U):u.ns.length<=LIM:=by
 cases u with
 | v x l =>
   show (bif Nat.ble l.length LIM then l else []).length<=LIM
   cases h:Nat.ble l.length LIM with
   | true=>exact ble_ok h
   | false=>exact Nat.zero_le _
 | _=>exact Nat.zero_le _
def U.gg:U->Gd | .g d=>d | _=>Gd.d0
 abbrev Rho:=Nat->U
def Agr (k:Nat) (ρ ρ':Rho):Prop:=∀i,i<k->ρ' i=ρ i
theorem Agr.refl (k:Nat) (ρ:Rho):Agr k ρ ρ:=fun _ _=>rfl
theorem Agr.trans {k k':Nat} {ρ ρ' ρ2:Rho} (h:Agr k ρ ρ') (h':Agr k' ρ' ρ2) (hk:k<=k'):Agr k ρ ρ2:=fun i hi=>(h' i (by omega)).trans (h i hi)
def Rho.up (ρ:Rho) (k:Nat) (u:U):Rho:=fun i=>if i=k then u else ρ i
theorem agr_up (ρ:Rho) (k:Nat) (u:U):Agr k ρ (ρ.up k u):=fun i hi=>by unfold Rho.up; rw [if_neg (by omega)]
theorem up_at (ρ:Rho) (k:Nat) (u:U):ρ.up k u k=u:=by simp [Rho.up]
inductive At where
 | n (k:Nat) | z (k:Nat) | len (k:Nat) | wt (k:Nat) | sl (k:Nat) | gn (k b:Nat)
def At.key:At->Nat
 | .n k=>Nat.mul k 8
 | .z k=>Nat.add (Nat.mul k 8) 1
 | .len k=>Nat.add (Nat.mul k 8) 2
 | .wt k=>Nat.add (Nat.mul k 8) 3
 | .sl k=>Nat.add (Nat.mul k 8) 4
 | .gn k _=>Nat.add (Nat.mul k 8) 5
def At.sec:At->Nat | .gn _ b=>b | _=>0
def At.beq (a b:At):Bool:=bif Nat.beq a.key b.key then Nat.beq a.sec b.sec else false
theorem At.beq_ok {a b:At} (h:a.beq b=true):a=b:=by
 unfold At.beq at h
 cases hb:Nat.beq a.key b.key with
 | false=>rw [hb] at h; cases h
 | true =>
   rw [hb] at h
   have h1:=Nat.eq_of_beq_eq_true hb
   have h2:=Nat.eq_of_beq_eq_true (show Nat.beq a.sec b.sec=true from h)
   cases a<;>cases b<;>simp only [At.key,At.sec,Nat.mul_eq,Nat.add_eq] at h1 h2<;>first | (exfalso; omega) | (congr 1; omega) | (congr 1<;>omega)
def At.id:At->Nat | .n k=>k | .z k=>k | .len k=>k | .wt k=>k | .sl k=>k | .gn k _=>k
def At.ev (ρ:Rho):At->Int
 | .n k=>(ρ k).nn
 | .z k=>(ρ k).zz
 | .len k=>(ρ k).ns.length
 | .wt k=>((ρ k).ns.sum+(ρ k).ns.length:Nat)
 | .sl k=>(ρ k).sl
 | .gn k b=>(ρ k).gg.n b
def At.nat:At->Bool | .z _=>false | _=>true
theorem At.nat_ok {a:At} (h:a.nat=true) (ρ:Rho):0<=a.ev ρ:=by cases a<;>first | (simp [At.nat] at h; done) | (simp [At.ev]; try omega)
theorem At.agr {a:At} {k:Nat} {ρ ρ':Rho} (h:Agr k ρ ρ') (ha:a.id<k):a.ev ρ'=a.ev ρ:=by cases a<;>simp only [At.ev,At.id] at ha ⊢<;>rw [h _ ha]
structure LE where
 c:Int
 ts:List (Int × At)
def evT (ρ:Rho):List (Int × At)->Int
 | []=>0
 | p::l=>p.1*p.2.ev ρ+evT ρ l
def LE.ev (ρ:Rho) (e:LE):Int:=e.c+evT ρ e.ts
def negI:Int->Bool | .ofNat _=>false | .negSucc _=>true
def zerI:Int->Bool | .ofNat n=>Nat.beq n 0 | .negSucc _=>false
theorem negI_f {x:Int} (h:negI x=false):0<=x:=by cases x with | ofNat n=>exact Int.natCast_nonneg n | negSucc n=>cases h
theorem negI_t {x:Int} (h:negI x=true):x<0:=by cases x with | ofNat n=>cases h | negSucc n=>omega
theorem zerI_t {x:Int} (h:zerI x=true):x=0:=by cases x with | ofNat n=>have:=Nat.eq_of_beq_eq_true h; subst this; rfl | negSucc n=>cases h
theorem zerI_f {x:Int} (h:zerI x=false):x≠0:=by rintro rfl; cases h
def addT (k:Int) (a:At):List (Int × At)->List (Int × At)
 | []=>bif zerI k then [] else [(k,a)]
 | p::ts=>bif a.beq p.2 then (bif zerI (k+p.1) then ts else (k+p.1,a)::ts) else p::addT k a ts
theorem addT_ev (ρ:Rho) (k:Int) (a:At):∀ts,evT ρ (addT k a ts)=k*a.ev ρ+evT ρ ts
 | []=>by
   unfold addT
   cases h:zerI k with
   | true=>rw [zerI_t h]; simp [evT]
   | false=>simp [evT]
 | p::ts=>by
   unfold addT
   cases hb:a.beq p.2 with
   | true =>
     have:=At.beq_ok hb
     subst this
     cases h:zerI (k+p.1) with
     | true =>
       have:=zerI_t h
       have e:k=-p.1:=by omega
       subst e
       simp only [cond_true,evT]
       rw [Int.neg_mul]; omega
     | false=>simp only [cond_true,cond_false,evT,Int.add_mul]; omega
   | false=>simp only [cond_false,evT]; rw [addT_ev ρ k a ts]; omega
def addTs:List (Int × At)->List (Int × At)->List (Int × At)
 | [],ys=>ys
 | p::xs,ys=>addT p.1 p.2 (addTs xs ys)
theorem addTs_ev (ρ:Rho):∀xs ys,evT ρ (addTs xs ys)=evT ρ xs+evT ρ ys
 | [],ys=>by simp [addTs,evT]
 | p::xs,ys=>by rw [addTs,addT_ev,addTs_ev ρ xs ys,evT]; omega
def mulT (k:Int) (ts:List (Int × At)):List (Int × At):=ts.map fun p=>(k*p.1,p.2)
theorem mulT_ev (ρ:Rho) (k:Int):∀ts,evT ρ (mulT k ts)=k*evT ρ ts
 | []=>by simp [mulT,evT]
 | p::ts=>by
   have:=mulT_ev ρ k ts
   show k*p.1*p.2.ev ρ+evT ρ (mulT k ts)=k*(p.1*p.2.ev ρ+evT ρ ts)
   rw [this,Int.mul_add,Int.mul_assoc]
def LE.add (x y:LE):LE:=⟨x.c+y.c,addTs x.ts y.ts⟩
def LE.mulc (k:Int) (x:LE):LE:=⟨k*x.c,mulT k x.ts⟩
def LE.sub (x y:LE):LE:=x.add (y.mulc (-1))
def LE.k (c:Int):LE:=⟨c,[]⟩
def LE.a (a:At):LE:=⟨0,[(1,a)]⟩
def LE.addc (x:LE) (c:Int):LE:=⟨x.c+c,x.ts⟩
theorem LE.ev_add (ρ:Rho) (x y:LE):(x.add y).ev ρ=x.ev ρ+y.ev ρ:=by simp only [LE.ev,LE.add,addTs_ev]; omega
theorem LE.ev_mulc (ρ:Rho) (k:Int) (x:LE):(x.mulc k).ev ρ=k*x.ev ρ:=by simp only [LE.ev,LE.mulc,mulT_ev,Int.mul_add]
theorem LE.ev_sub (ρ:Rho) (x y:LE):(x.sub y).ev ρ=x.ev ρ-y.ev ρ:=by simp only [LE.sub,LE.ev_add,LE.ev_mulc]; omega
theorem LE.ev_k (ρ:Rho) (c:Int):(LE.k c).ev ρ=c:=by simp [LE.ev,LE.k,evT]
theorem LE.ev_a (ρ:Rho) (a:At):(LE.a a).ev ρ=a.ev ρ:=by simp [LE.ev,LE.a,evT]
theorem LE.ev_addc (ρ:Rho) (x:LE) (c:Int):(x.addc c).ev ρ=x.ev ρ+c:=by simp only [LE.ev,LE.addc]; omega
def LE.lt (n:Nat) (e:LE):Bool:=e.ts.all fun p=>Nat.blt p.2.id n
theorem evT_agr {k:Nat} {ρ ρ':Rho} (h:Agr k ρ ρ'):∀{ts:List (Int × At)},(ts.all fun p=>Nat.blt p.2.id k)=true->evT ρ' ts=evT ρ ts
 | [],_=>rfl
 | p::ts,ht=>by
   rw [List.all_cons,Bool.and_eq_true] at ht
   rw [evT,evT,evT_agr h ht.2,At.agr h (blt_ok ht.1)]
theorem LE.agr {k:Nat} {ρ ρ':Rho} (h:Agr k ρ ρ') {e:LE} (he:e.lt k=true):e.ev ρ'=e.ev ρ:=by unfold LE.ev; rw [evT_agr h he]
def LE.same (x y:LE):Bool:=let d:=x.sub y; zerI d.c&&d.ts.isEmpty
theorem LE.same_ok {x y:LE} (h:x.same y=true) (ρ:Rho):x.ev ρ=y.ev ρ:=by
 unfold LE.same at h
 rw [Bool.and_eq_true] at h
 have h1:=zerI_t h.1
 have h2:(x.sub y).ts=[]:=List.isEmpty_iff.1 h.2
 have:=LE.ev_sub ρ x y
 have h3:(x.sub y).ev ρ=0:=by unfold LE.ev; rw [h1,h2]; rfl
 omega
def badT:List (Int × At)->Bool
 | []=>false
 | p::ts=>(negI p.1||!p.2.nat)||badT ts
theorem badT_ok:∀{ts:List (Int × At)},badT ts=false->∀ρ,0<=evT ρ ts
 | [],_,ρ=>by simp [evT]
 | p::ts,h,ρ=>by
   unfold badT at h
   rw [Bool.or_eq_false_iff,Bool.or_eq_false_iff,Bool.not_eq_false'] at h
   obtain⟨⟨h1,h2⟩,h3⟩:=h
   have h1:=negI_f h1
   have h2:=At.nat_ok h2 ρ
   have h3:=badT_ok h3 ρ
   have:=Int.mul_nonneg h1 h2
   rw [evT]; omega
inductive Cs where | f (q k i:Nat) | lim (q k x:Nat) | lw (q k x:Nat) | ls (q k x:Nat)
def limF (k:Nat):LE:=⟨LIM,[(-1,.len k)]⟩
def lenWt (k:Nat):LE:=⟨0,[(1,.wt k),(-1,.len k)]⟩
def strF (k:Nat):LE:=⟨SLIM,[(-1,.sl k)]⟩
def step1 (g f:LE) (q k:Nat):LE:=bif Nat.beq q 1&&Nat.beq k 1 then g.sub f else (g.mulc q).sub (f.mulc k)
def getF:List LE->Nat->Option LE
 | [],_=>none
 | f::l,i=>bif Nat.beq i 0 then some f else getF l (Nat.pred i)
theorem getF_mem:∀{l:List LE} {i:Nat} {f:LE},getF l i=some f->f∈l
 | [],_,_,h=>by cases h
 | x::l,i,f,h=>by
   unfold getF at h
   cases hb:Nat.beq i 0 with
   | true=>rw [hb] at h; cases h; exact List.mem_cons_self ..
   | false=>rw [hb] at h; exact List.mem_cons_of_mem _ (getF_mem h)
def Cs.fact (fs:List LE):Cs->Option LE | .f _ _ i=>getF fs i | .lim _ _ x=>some (limF x) | .lw _ _ x=>some (lenWt x) | .ls _ _ x=>some (strF x)
def Cs.q:Cs->Nat | .f q _ _=>q | .lim q _ _=>q | .lw q _ _=>q | .ls q _ _=>q
def Cs.k:Cs->Nat | .f _ k _=>k | .lim _ k _=>k | .lw _ k _=>k | .ls _ k _=>k
def chk (fs:List LE):List Cs->LE->Bool
 | [],g=>bif negI g.c then false else !badT g.ts
 | x::l,g=>match x.fact fs with
   | some f=>bif Nat.beq x.q 0 then false else chk fs l (step1 g f x.q x.k)
   | none=>false
theorem step1_ok {g f:LE} {q k:Nat} {ρ:Rho} (hq:Nat.beq q 0=false) (hf:0<=f.ev ρ) (h:0<=(step1 g f q k).ev ρ):0<=g.ev ρ:=by
 unfold step1 at h
 have h0:q≠0:=fun e=>by subst e; cases hq
 have hk:0<=(k:Int)*f.ev ρ:=Int.mul_nonneg (Int.natCast_nonneg _) hf
 cases hb:(Nat.beq q 1&&Nat.beq k 1) with
 | true=>rw [hb,cond_true,LE.ev_sub] at h; omega
 | false =>
   rw [hb,cond_false,LE.ev_sub,LE.ev_mulc,LE.ev_mulc] at h
   have hqq:(0:Int)<(q:Int):=by omega
   rcases Int.lt_or_le (g.ev ρ) 0 with hlt | hge
   · have:=Int.mul_neg_of_pos_of_neg hqq hlt
     omega
   · exact hge
theorem chk_ok {fs:List LE} {ρ:Rho} (hfs:∀f∈fs,0<=f.ev ρ):∀{l:List Cs} {g:LE},chk fs l g=true->0<=g.ev ρ
 | [],g,h=>by
   unfold chk at h
   cases hc:negI g.c with
   | true=>rw [hc] at h; cases h
   | false =>
     rw [hc,cond_false,Bool.not_eq_true'] at h
     have h1:=negI_f hc
     have h2:=badT_ok h ρ
     unfold LE.ev; omega
 | x::l,g,h=>by
   unfold chk at h
   split at h
   · rename_i f hf
     cases hq:Nat.beq x.q 0 with
     | true=>rw [hq] at h; cases h
     | false =>
       rw [hq] at h
       refine step1_ok hq ?_ (chk_ok hfs h)
       cases x with
       | f q k i=>exact hfs f (getF_mem hf)
       | lim q k y =>
         cases hf
         have:=U.ns_lim (ρ y)
         simp only [limF,LE.ev,evT,At.ev]
         omega
       | lw q k y =>
         cases hf
         simp only [lenWt,LE.ev,evT,At.ev]
         omega
       | ls q k y =>
         cases hf
         have:=U.sl_lim (ρ y)
         simp only [strF,LE.ev,evT,At.ev]
         omega
   · cases h
def At.ps:At->Nat
 | .n k=>Nat.mul k 8
 | .sl k=>Nat.add (Nat.mul k 8) 7
 | .z k=>Nat.add (Nat.mul k 8) 1
 | .wt k=>Nat.add (Nat.mul k 8) 2
 | .len k=>Nat.add (Nat.mul k 8) 3
 | .gn k b=>Nat.add (Nat.mul k 8) (Nat.add 4 b)
def pkP:List (Int × At)->Nat
 | []=>0
 | p::l=>match p.1 with | .ofNat k=>Nat.add (pkP l) (Nat.shiftLeft k (Nat.mul 64 p.2.ps)) | .negSucc _=>pkP l
def pkN:List (Int × At)->Nat
 | []=>0
 | p::l=>match p.1 with | .ofNat _=>pkN l | .negSucc k=>Nat.add (pkN l) (Nat.shiftLeft (Nat.succ k) (Nat.mul 64 p.2.ps))
def topH (n:Nat):Nat:=Nat.shiftLeft (Nat.div (Nat.sub (Nat.pow 2 (Nat.mul 512 n)) 1) 18446744073709551615) 63
def topZ (n:Nat):Nat:=Nat.shiftLeft (Nat.div (Nat.sub (Nat.pow 2 (Nat.mul 512 n)) 1) (Nat.sub (Nat.pow 2 512) 1)) 127
structure Pk where
 i:Nat
 p:Nat
 n:Nat
 xn:Nat
 xp:Nat
 c:Int
def lessB (H p n:Nat):Nat:=Nat.sub H (Nat.land (Nat.sub (Nat.add p H) n) H)
def pkF (H i:Nat) (f:LE):Pk:=⟨i,pkP f.ts,pkN f.ts,lessB H (pkP f.ts) (pkN f.ts),lessB H (pkN f.ts) (pkP f.ts),f.c⟩
def pkL (H:Nat):Nat->List LE->List Pk
 | _,[]=>[]
 | i,f::l=>pkF H i f::pkL H (Nat.succ i) l
def fld (x ps:Nat):Nat:=Nat.land (Nat.shiftRight x (Nat.mul 64 ps)) 18446744073709551615
def ifS (o:Option (List Cs)) (x:Cs) (r:Option (List Cs)):Option (List Cs):=match o with | some l=>some (x::l) | none=>r
def tryL (bit:Nat) (neg:Bool) (kk:Nat) (ps:Nat) (P N:Nat) (c:Int) (K:Nat->Nat->Int->Option (List Cs)):List Pk->Option (List Cs)
 | []=>none
 | f::l=>bif Nat.beq (Nat.land (Nat.shiftRight (bif neg then f.xn else f.xp) bit) 1) 0 then tryL bit neg kk ps P N c K l else
   let q:=bif neg then Nat.sub (fld f.n ps) (fld f.p ps) else Nat.sub (fld f.p ps) (fld f.n ps)
   bif Nat.beq q 1&&Nat.beq kk 1 then ifS (K (Nat.add P f.n) (Nat.add N f.p) (Int.sub c f.c)) (.f 1 1 f.i) (tryL bit neg kk ps P N c K l)
   else ifS (K (Nat.add (Nat.mul q P) (Nat.mul kk f.n)) (Nat.add (Nat.mul q N) (Nat.mul kk f.p)) (Int.sub (Int.mul q c) (Int.mul kk f.c))) (.f q kk f.i) (tryL bit neg kk ps P N c K l)
def tryC (P N:Nat) (c:Int) (K:Nat->Nat->Int->Option (List Cs)):List Pk->Option (List Cs)
 | []=>none
 | f::l=>bif negI f.c then ifS (K (Nat.add P f.n) (Nat.add N f.p) (Int.sub c f.c)) (.f 1 1 f.i) (tryC P N c K l) else tryC P N c K l
def orS (a b:Option (List Cs)):Option (List Cs):=match a with | some l=>some l | none=>b
def topB (x:Nat):Nat->Nat->Nat
 | 0,a=>a
 | k+1,a=>bif Nat.beq (Nat.shiftRight x (Nat.add a (Nat.pow 2 k))) 0 then topB x k a else topB x k (Nat.add a (Nat.pow 2 k))
def srch (H Z:Nat) (fs:List Pk):Nat->Nat->Nat->Nat->Int->Option (List Cs)
 | 0,_,_,_,_=>none
 | fu+1,ban,P,N,c =>
   let xn:=lessB H P N
   let x:=Nat.lor xn (Nat.sub Z (Nat.land (Nat.sub (Nat.add N H) P) Z))
   bif Nat.beq (Nat.land x ban) 0 then
    (bif Nat.beq x 0 then (bif negI c then tryC P N c (fun P N c=>srch H Z fs fu ban P N c) fs else some [])
    else
     let bit:=topB x 21 0
     let ps:=Nat.shiftRight bit 6
     let neg:=!Nat.beq (Nat.land (Nat.shiftRight xn bit) 1) 0
     let kk:=bif neg then Nat.sub (fld N ps) (fld P ps) else Nat.sub (fld P ps) (fld N ps)
     let ban':=Nat.lor ban (Nat.shiftLeft 1 bit)
     orS (tryL bit neg kk ps P N c (fun P N c=>srch H Z fs fu ban' P N c) fs)
      (bif Nat.beq (Nat.land ps 7) 3 then
       orS (ifS (srch H Z fs fu ban' (Nat.add P (Nat.shiftLeft kk (Nat.mul 64 ps))) (Nat.add N (Nat.shiftLeft kk (Nat.mul 64 (Nat.pred ps)))) c) (.lw 1 kk (Nat.shiftRight ps 3)) none)
        (ifS (srch H Z fs fu ban' (Nat.add P (Nat.shiftLeft kk (Nat.mul 64 ps))) N (Int.sub c (Int.mul kk LIM))) (.lim 1 kk (Nat.shiftRight ps 3)) none)
      else bif Nat.beq (Nat.land ps 7) 7 then ifS (srch H Z fs fu ban' (Nat.add P (Nat.shiftLeft kk (Nat.mul 64 ps))) N (Int.sub c (Int.mul kk SLIM))) (.ls 1 kk (Nat.shiftRight ps 3)) none else none))
   else none
def roomN (nx:Nat):Nat:=bif Nat.ble nx 120 then 120 else bif Nat.ble nx 500 then 500 else 4000
def pv (fu nx:Nat) (fs:List LE) (g:LE):Bool:=bif !negI g.c&&!badT g.ts then true else
 let H:=topH (roomN nx)
 match srch H (topZ (roomN nx)) (pkL H 0 fs) fu 0 (pkP g.ts) (pkN g.ts) g.c with
 | some l=>chk fs l g
 | none=>false
theorem pv_ok {fs:List LE} {ρ:Rho} (hfs:∀f∈fs,0<=f.ev ρ) {n nx:Nat} {g:LE} (h:pv n nx fs g=true):0<=g.ev ρ:=by
 unfold pv at h
 cases hb:(!negI g.c&&!badT g.ts) with
 | true =>
   rw [Bool.and_eq_true,Bool.not_eq_true',Bool.not_eq_true'] at hb
   have h1:=negI_f hb.1
   have h2:=badT_ok hb.2 ρ
   unfold LE.ev; omega
 | false =>
   rw [hb,cond_false] at h
   simp only at h
   split at h
   · exact chk_ok hfs h
   · cases h
inductive BE where
 | k (b:Bool) | v (x:Nat) | nv (x:Nat) | ge (e:LE) | eq (e:LE) | ne (e:LE)
def BE.ev (ρ:Rho):BE->Bool
 | .k b=>b
 | .v x=>(ρ x).bb
 | .nv x=>!(ρ x).bb
 | .ge e=>decide (0<=e.ev ρ)
 | .eq e=>decide (e.ev ρ=0)
 | .ne e=>!decide (e.ev ρ=0)
def BE.lt (n:Nat):BE->Bool
 | .k _=>true
 | .v x=>Nat.blt x n
 | .nv x=>Nat.blt x n
 | .ge e=>e.lt n
 | .eq e=>e.lt n
 | .ne e=>e.lt n
def BE.not:BE->BE
 | .k b=>.k (!b)
 | .v x=>.nv x
 | .nv x=>.v x
 | .ge e=>.ge ((LE.k (-1)).sub e)
 | .eq e=>.ne e
 | .ne e=>.eq e
theorem BE.ev_not (ρ:Rho) (b:BE):b.not.ev ρ=!b.ev ρ:=by
 cases b with
 | ge e =>
   simp only [BE.not,BE.ev,LE.ev_sub,LE.ev_k]
   rw [Bool.eq_iff_iff]
   simp only [Bool.not_eq_true',decide_eq_true_eq,decide_eq_false_iff_not]
   omega
 | _=>simp [BE.not,BE.ev]
theorem BE.agr {k:Nat} {ρ ρ':Rho} (h:Agr k ρ ρ') {b:BE} (hb:b.lt k=true):b.ev ρ'=b.ev ρ:=by
 cases b with
 | k b=>rfl
 | v x=>simp only [BE.ev]; rw [h x (blt_ok hb)]
 | nv x=>simp only [BE.ev]; rw [h x (blt_ok hb)]
 | ge e=>simp only [BE.ev]; rw [LE.agr h hb]
 | eq e=>simp only [BE.ev]; rw [LE.agr h hb]
 | ne e=>simp only [BE.ev]; rw [LE.agr h hb]
def BE.same:BE->BE->Bool
 | .k b,.k b'=>b==b'
 | .v x,.v y=>Nat.beq x y
 | .nv x,.nv y=>Nat.beq x y
 | .ge e,.ge e'=>e.same e'
 | .eq e,.eq e'=>e.same e'
 | .ne e,.ne e'=>e.same e'
 | _,_=>false
theorem BE.same_ok {x y:BE} (h:x.same y=true) (ρ:Rho):x.ev ρ=y.ev ρ:=by
 cases x<;>cases y<;>simp only [BE.same,Bool.false_eq_true] at h
 · rw [beq_iff_eq] at h; subst h; rfl
 · have:=Nat.eq_of_beq_eq_true h; subst this; rfl
 · have:=Nat.eq_of_beq_eq_true h; subst this; rfl
 all_goals (simp only [BE.ev]; rw [LE.same_ok h ρ])
inductive SC where
 | int (k:IntKind) (e:LE) | bool (b:BE) | str (x:Nat) | strc (l m:Nat) | flt (k:FloatKind) (x:Nat) | fltc (k:FloatKind) (b:Nat)
 | ref (x:Nat) | nils | nilp | nilmap | nilfunc
 | rpt (b o:Nat) | elp (x:Nat) (i:LE) (sz o:Nat) | ptp (x o:Nat) | rmp (b:Nat) | fn (f:Nat) | osl (b n:Nat)
def elpA (v:AV) (k:Nat):AV:=match v with | .rsl b o _ _=>.rpt b (o+k) | _=>.nilp
def ptpA (v:AV) (k:Nat):AV:=match v with | .rpt b o=>.rpt b (o+k) | _=>.nilp
def SC.den (ρ:Rho):SC->AV
 | .int k e=>.int k (e.ev ρ)
 | .bool b=>.bool (b.ev ρ)
 | .str x=>.str (ρ x).sl (ρ x).sm
 | .strc l m=>.str l m
 | .flt k x=>.float k (ρ x).nn
 | .fltc k b=>.float k b
 | .ref x=>(ρ x).vv
 | .nils=>.nils | .nilp=>.nilp | .nilmap=>.nilmap | .nilfunc=>.nilfunc
 | .rpt b o=>.rpt (ρ b).nn o
 | .elp x i sz o=>elpA (ρ x).vv ((i.ev ρ).toNat*sz+o)
 | .ptp x o=>ptpA (ρ x).vv o
 | .rmp b=>.rmp (ρ b).nn
 | .fn f=>.func (.func f) [] []
 | .osl b n=>.rsl (ρ b).nn 0 n n
def SC.lt (n:Nat):SC->Bool
 | .int _ e=>e.lt n
 | .bool b=>b.lt n
 | .str x=>Nat.blt x n
 | .flt _ x=>Nat.blt x n
 | .ref x=>Nat.blt x n
 | .rpt b _=>Nat.blt b n
 | .elp x i _ _=>Nat.blt x n&&i.lt n
 | .ptp x _=>Nat.blt x n
 | .rmp b=>Nat.blt b n
 | .osl b _=>Nat.blt b n
 | _=>true
theorem SC.agr {k:Nat} {ρ ρ':Rho} (h:Agr k ρ ρ') {c:SC} (hc:c.lt k=true):c.den ρ'=c.den ρ:=by
 cases c with
 | int kd e=>simp only [SC.den]; rw [LE.agr h hc]
 | bool b=>simp only [SC.den]; rw [BE.agr h hc]
 | elp x i sz o =>
   have hc:(Nat.blt x k&&i.lt k)=true:=hc
   rw [Bool.and_eq_true] at hc
   simp only [SC.den]; rw [h x (blt_ok hc.1),LE.agr h hc.2]
 | str x=>simp only [SC.den]; rw [h x (blt_ok hc)]
 | flt kd x=>simp only [SC.den]; rw [h x (blt_ok hc)]
 | ref x=>simp only [SC.den]; rw [h x (blt_ok hc)]
 | rpt x o=>simp only [SC.den]; rw [h x (blt_ok hc)]
 | ptp x o=>simp only [SC.den]; rw [h x (blt_ok hc)]
 | rmp x=>simp only [SC.den]; rw [h x (blt_ok hc)]
 | osl x _=>simp only [SC.den]; rw [h x (blt_ok hc)]
 | _=>rfl
def kindB:IntKind->IntKind->Bool:=fun a b=>decide (a=b)
def fkindB:FloatKind->FloatKind->Bool:=fun a b=>decide (a=b)
def SC.same:SC->SC->Bool
 | .int k e,.int k' e'=>kindB k k'&&e.same e'
 | .bool b,.bool b'=>b.same b'
 | .str x,.str y=>Nat.beq x y
 | .strc l m,.strc l' m'=>Nat.beq l l'&&Nat.beq m m'
 | .flt k x,.flt k' y=>fkindB k k'&&Nat.beq x y
 | .fltc k x,.fltc k' y=>fkindB k k'&&Nat.beq x y
 | .ref x,.ref y=>Nat.beq x y
 | .nils,.nils=>true
 | .nilp,.nilp=>true
 | .nilmap,.nilmap=>true
 | .nilfunc,.nilfunc=>true
 | .rpt b o,.rpt b' o'=>Nat.beq b b'&&Nat.beq o o'
 | .elp x i s o,.elp x' i' s' o'=>Nat.beq x x'&&(i.same i'&&(Nat.beq s s'&&Nat.beq o o'))
 | .ptp x o,.ptp x' o'=>Nat.beq x x'&&Nat.beq o o'
 | .rmp b,.rmp b'=>Nat.beq b b'
 | .fn f,.fn f'=>Nat.beq f f'
 | .osl b o,.osl b' o'=>Nat.beq b b'&&Nat.beq o o'
 | _,_=>false
theorem SC.same_ok {x y:SC} (h:x.same y=true) (ρ:Rho):x.den ρ=y.den ρ:=by
 cases x<;>cases y<;>simp only [SC.same,Bool.false_eq_true,Bool.and_eq_true,kindB,fkindB,decide_eq_true_eq] at h
 · obtain⟨rfl,h⟩:=h; simp only [SC.den]; rw [LE.same_ok h ρ]
 · simp only [SC.den]; rw [BE.same_ok h ρ]
 · have:=Nat.eq_of_beq_eq_true h; subst this; rfl
 · obtain⟨h1,h2⟩:=h; have:=Nat.eq_of_beq_eq_true h1; have:=Nat.eq_of_beq_eq_true h2; subst_vars; rfl
 · obtain⟨rfl,h⟩:=h; have:=Nat.eq_of_beq_eq_true h; subst this; rfl
 · obtain⟨rfl,h⟩:=h; have:=Nat.eq_of_beq_eq_true h; subst this; rfl
 · have:=Nat.eq_of_beq_eq_true h; subst this; rfl
 · rfl
 · rfl
 · rfl
 · rfl
 · obtain⟨h1,h2⟩:=h; have:=Nat.eq_of_beq_eq_true h1; have:=Nat.eq_of_beq_eq_true h2; subst_vars; rfl
 · obtain⟨h1,h2,h3,h4⟩:=h; have:=Nat.eq_of_beq_eq_true h1; have:=Nat.eq_of_beq_eq_true h3; have:=Nat.eq_of_beq_eq_true h4; subst_vars; simp only [SC.den]; rw [LE.same_ok h2 ρ]
 · obtain⟨h1,h2⟩:=h; have:=Nat.eq_of_beq_eq_true h1; have:=Nat.eq_of_beq_eq_true h2; subst_vars; rfl
 · have:=Nat.eq_of_beq_eq_true h; subst this; rfl
 · have:=Nat.eq_of_beq_eq_true h; subst this; rfl
 · obtain⟨h1,h2⟩:=h; have:=Nat.eq_of_beq_eq_true h1; have:=Nat.eq_of_beq_eq_true h2; subst_vars; rfl
def denL (ρ:Rho) (cs:List SC):List AV:=cs.map (SC.den ρ)
def ltL (n:Nat) (cs:List SC):Bool:=cs.all (SC.lt n)
theorem denL_agr {k:Nat} {ρ ρ':Rho} (h:Agr k ρ ρ') {cs:List SC} (hc:ltL k cs=true):denL ρ' cs=denL ρ cs:=List.map_congr_left fun c hm=>SC.agr h (List.all_eq_true.1 hc c hm)
def sameL:List SC->List SC->Bool
 | [],[]=>true
 | x::xs,y::ys=>x.same y&&sameL xs ys
 | _,_=>false
theorem sameL_ok:∀{xs ys:List SC},sameL xs ys=true->∀ρ,denL ρ xs=denL ρ ys
 | [],[],_,ρ=>rfl
 | x::xs,y::ys,h,ρ=>by
   simp only [sameL,Bool.and_eq_true] at h
   show x.den ρ::denL ρ xs=y.den ρ::denL ρ ys
   rw [SC.same_ok h.1 ρ,sameL_ok h.2 ρ]
 | [],_::_,h,_=>by cases h
 | _::_,[],h,_=>by cases h
inductive SV where
 | v (ag:Bool) (cs:List SC)
 | tup (l:List (Bool × List SC))
 | undef
 | clo (f:Nat) (cs:List SC)
def den1 (ρ:Rho) (p:Bool × List SC):AV:=match p.1 with | true=>.agg (denL ρ p.2) | false=>(denL ρ p.2).headD .nils
def SV.den (ρ:Rho):SV->AV
 | .v ag cs=>den1 ρ (ag,cs)
 | .tup l=>.tup (l.map (den1 ρ))
 | .undef=>undefA
 | .clo f cs=>.func (.func f) [] (denL ρ cs)
def SV.lt (n:Nat):SV->Bool
 | .v _ cs=>ltL n cs
 | .tup l=>l.all fun p=>ltL n p.2
 | .undef=>true
 | .clo _ cs=>ltL n cs
theorem den1_agr {k:Nat} {ρ ρ':Rho} (h:Agr k ρ ρ') {p:Bool × List SC} (hc:ltL k p.2=true):den1 ρ' p=den1 ρ p:=by unfold den1; rw [denL_agr h hc]
theorem SV.agr {k:Nat} {ρ ρ':Rho} (h:Agr k ρ ρ') {v:SV} (hv:v.lt k=true):v.den ρ'=v.den ρ:=by
 cases v with
 | v ag cs=>exact den1_agr h hv
 | tup l=>simp only [SV.den]; congr 1; exact List.map_congr_left fun p hp=>den1_agr h (List.all_eq_true.1 hv p hp)
 | undef=>rfl
 | clo f cs=>simp only [SV.den]; rw [denL_agr h hv]
def same1:List (Bool × List SC)->List (Bool × List SC)->Bool
 | [],[]=>true
 | x::xs,y::ys=>(x.1==y.1)&&(sameL x.2 y.2&&same1 xs ys)
 | _,_=>false
theorem same1_ok:∀{xs ys:List (Bool × List SC)},same1 xs ys=true->∀ρ,xs.map (den1 ρ)=ys.map (den1 ρ)
 | [],[],_,ρ=>rfl
 | x::xs,y::ys,h,ρ=>by
   simp only [same1,Bool.and_eq_true,beq_iff_eq] at h
   obtain⟨h1,h2,h3⟩:=h
   rw [List.map_cons,List.map_cons,same1_ok h3 ρ]
   congr 1
   unfold den1
   rw [h1,sameL_ok h2 ρ]
 | [],_::_,h,_=>by cases h
 | _::_,[],h,_=>by cases h
def SV.same:SV->SV->Bool
 | .v a cs,.v a' cs'=>(a==a')&&sameL cs cs'
 | .tup l,.tup l'=>same1 l l'
 | .undef,.undef=>true
 | .clo f cs,.clo f' cs'=>Nat.beq f f'&&sameL cs cs'
 | _,_=>false
theorem SV.same_ok {x y:SV} (h:x.same y=true) (ρ:Rho):x.den ρ=y.den ρ:=by
 cases x<;>cases y<;>simp only [SV.same,Bool.false_eq_true,Bool.and_eq_true,beq_iff_eq] at h
 · obtain⟨rfl,h⟩:=h; simp only [SV.den,den1]; rw [sameL_ok h ρ]
 · simp only [SV.den]; rw [same1_ok h ρ]
 · rfl
 · obtain⟨h1,h⟩:=h; have:=Nat.eq_of_beq_eq_true h1; subst this; simp only [SV.den]; rw [sameL_ok h ρ]
def ig (ρ:Rho):Nat->Nat | 0=>0 | k+1=>(ρ k).nn
def igLt (n g:Nat):Bool:=Nat.ble g n
theorem ig_agr {k:Nat} {ρ ρ':Rho} (h:Agr k ρ ρ') {g:Nat} (hg:igLt k g=true):ig ρ' g=ig ρ g:=by
 cases g with
 | zero=>rfl
 | succ g=>have:=ble_ok hg; simp only [ig]; rw [h g (by omega)]
inductive STF where
 | sl (x c g:Nat) | pt (x c g:Nat) | mp (x c g:Nat) | el (x c:Nat) (e:LE) (off:Nat) (v:SC)
def STF.den (ρ:Rho):STF->TF
 | .sl x c g=>.sl (ρ x).vv c (ig ρ g) (ρ x).ns
 | .pt x c g=>.pt (ρ x).vv c (ig ρ g)
 | .mp x c g=>.mp (ρ x).vv c (ig ρ g)
 | .el x c e off v=>.el (ρ x).vv c (e.ev ρ).toNat off (v.den ρ)
def STF.lt (n:Nat):STF->Bool
 | .sl x _ g=>Nat.blt x n&&igLt n g
 | .pt x _ g=>Nat.blt x n&&igLt n g
 | .mp x _ g=>Nat.blt x n&&igLt n g
 | .el x _ e _ v=>Nat.blt x n&&(e.lt n&&v.lt n)
theorem STF.agr {k:Nat} {ρ ρ':Rho} (h:Agr k ρ ρ') {f:STF} (hf:f.lt k=true):f.den ρ'=f.den ρ:=by
 cases f with
 | el x c e off v=>simp only [STF.lt,Bool.and_eq_true] at hf; simp only [STF.den]; rw [h _ (blt_ok hf.1),LE.agr h hf.2.1,SC.agr h hf.2.2]
 | _=>simp only [STF.lt,Bool.and_eq_true] at hf; simp only [STF.den]; rw [h _ (blt_ok hf.1),ig_agr h hf.2]
def STF.beq:STF->STF->Bool
 | .sl x c g,.sl x' c' g'=>Nat.beq x x'&&(Nat.beq c c'&&Nat.beq g g')
 | .pt x c g,.pt x' c' g'=>Nat.beq x x'&&(Nat.beq c c'&&Nat.beq g g')
 | .mp x c g,.mp x' c' g'=>Nat.beq x x'&&(Nat.beq c c'&&Nat.beq g g')
 | _,_=>false
theorem STF.beq_ok {x y:STF} (h:x.beq y=true):x=y:=by
 cases x<;>cases y<;>simp only [STF.beq,Bool.false_eq_true,Bool.and_eq_true] at h
 all_goals (obtain⟨h1,h2,h3⟩:=h; have:=Nat.eq_of_beq_eq_true h1; have:=Nat.eq_of_beq_eq_true h2; have:=Nat.eq_of_beq_eq_true h3; subst_vars; rfl)
inductive SO where
 | loc (b:Nat) (el:TypeId) (cs:List SC)
 | lst (x c:Nat)
 | em (b:Nat) (pk:KK)
 | ul (x c g:Nat)
 | am (b g k:Nat)
 | im (b:Nat) (e:LE)
 | bl (x m:Nat) (el:TypeId)
def SO.den (ρ:Rho):SO->Own
 | .loc b el cs=>.loc (ρ b).nn el (denL ρ cs)
 | .lst x c=>.lst (ρ x).vv c (ρ x).ns
 | .em b pk=>.map (ρ b).nn pk []
 | .ul x c g=>.ul (ρ x).vv c (ig ρ g) (ρ x).ns.length
 | .am b g k=>.am (ρ b).nn (ig ρ g) k
 | .im b e=>.im (ρ b).nn (e.ev ρ).toNat
 | .bl x m el=>.bl (ρ x).vv el (ρ m).ns
def SO.lt (n:Nat):SO->Bool
 | .loc b _ cs=>Nat.blt b n&&ltL n cs
 | .lst x _=>Nat.blt x n
 | .em b _=>Nat.blt b n
 | .ul x _ g=>Nat.blt x n&&igLt n g
 | .am b g _=>Nat.blt b n&&igLt n g
 | .im b e=>Nat.blt b n&&e.lt n
 | .bl x m _=>Nat.blt x n&&Nat.blt m n
theorem SO.agr {k:Nat} {ρ ρ':Rho} (h:Agr k ρ ρ') {o:SO} (ho:o.lt k=true):o.den ρ'=o.den ρ:=by
 cases o with
 | loc b el cs=>simp only [SO.lt,Bool.and_eq_true] at ho; simp only [SO.den]; rw [h _ (blt_ok ho.1),denL_agr h ho.2]
 | lst x c=>simp only [SO.den]; rw [h _ (blt_ok ho)]
 | em b pk=>simp only [SO.den]; rw [h _ (blt_ok ho)]
 | ul x c g=>simp only [SO.lt,Bool.and_eq_true] at ho; simp only [SO.den]; rw [h _ (blt_ok ho.1),ig_agr h ho.2]
 | am b g k=>simp only [SO.lt,Bool.and_eq_true] at ho; simp only [SO.den]; rw [h _ (blt_ok ho.1),ig_agr h ho.2]
 | im b e=>simp only [SO.lt,Bool.and_eq_true] at ho; simp only [SO.den]; rw [h _ (blt_ok ho.1),LE.agr h ho.2]
 | bl x m el=>simp only [SO.lt,Bool.and_eq_true] at ho; simp only [SO.den]; rw [h _ (blt_ok ho.1),h _ (blt_ok ho.2)]
def kkE:KK->KK->Bool
 | .str,.str=>true | .pair,.pair=>true | .int,.int=>true | .ipair,.ipair=>true
 | _,_=>false
theorem kkE_ok {a b:KK} (h:kkE a b=true):a=b:=by cases a<;>cases b<;>first | rfl | cases h
def SO.same:SO->SO->Bool
 | .loc b el cs,.loc b' el' cs'=>Nat.beq b b'&&(Nat.beq el el'&&sameL cs cs')
 | .lst x c,.lst x' c'=>Nat.beq x x'&&Nat.beq c c'
 | .em b pk,.em b' pk'=>Nat.beq b b'&&kkE pk pk'
 | .ul x c g,.ul x' c' g'=>Nat.beq x x'&&(Nat.beq c c'&&Nat.beq g g')
 | .am x c g,.am x' c' g'=>Nat.beq x x'&&(Nat.beq c c'&&Nat.beq g g')
 | .im b e,.im b' e'=>Nat.beq b b'&&e.same e'
 | .bl x c g,.bl x' c' g'=>Nat.beq x x'&&(Nat.beq c c'&&Nat.beq g g')
 | _,_=>false
theorem SO.same_ok {x y:SO} (h:x.same y=true) (ρ:Rho):x.den ρ=y.den ρ:=by
 cases x<;>cases y<;>simp only [SO.same,Bool.false_eq_true,Bool.and_eq_true] at h
 · obtain⟨h1,h2,h3⟩:=h; have:=Nat.eq_of_beq_eq_true h1; have:=Nat.eq_of_beq_eq_true h2; subst_vars; simp only [SO.den]; rw [sameL_ok h3 ρ]
 · obtain⟨h1,h2⟩:=h; have:=Nat.eq_of_beq_eq_true h1; have:=Nat.eq_of_beq_eq_true h2; subst_vars; rfl
 · obtain⟨h1,h2⟩:=h; have:=Nat.eq_of_beq_eq_true h1; have:=kkE_ok h2; subst_vars; rfl
 · obtain⟨h1,h2,h3⟩:=h; have:=Nat.eq_of_beq_eq_true h1; have:=Nat.eq_of_beq_eq_true h2; have:=Nat.eq_of_beq_eq_true h3; subst_vars; rfl
 · obtain⟨h1,h2,h3⟩:=h; have:=Nat.eq_of_beq_eq_true h1; have:=Nat.eq_of_beq_eq_true h2; have:=Nat.eq_of_beq_eq_true h3; subst_vars; rfl
 · obtain⟨h1,h2⟩:=h; have:=Nat.eq_of_beq_eq_true h1; subst_vars; simp only [SO.den]; rw [LE.same_ok h2 ρ]
 · obtain⟨h1,h2,h3⟩:=h; have:=Nat.eq_of_beq_eq_true h1; have:=Nat.eq_of_beq_eq_true h2; have:=Nat.eq_of_beq_eq_true h3; subst_vars; rfl
structure SS where
 nx:Nat
 L:List (Nat × SV)
 os:List SO
 ty:List STF
 gs:List (Nat × Nat × Bool)
 fs:List LE
 bs:List (Nat × Bool)
 pw:List (Nat × LE × LE)
 ats:List (Nat × SC × LE)
 fls:List (Nat × LE × LE)
 ne:List LE
 fz:List Nat
 sb:List (Nat × Nat)
def SS.den (ρ:Rho) (s:SS):St:=⟨s.L.map fun p=>(p.1,p.2.den ρ),s.os.map (SO.den ρ),s.ty.map (STF.den ρ),s.gs.map fun p=>(ig ρ p.1,(ρ p.2.1).gg,p.2.2)⟩
def atV (d:Gd) (v:AV):Option Nat:=match v with | .str l m=>d.at_ l m | _=>none
def AtF (ρ:Rho) (p:Nat × SC × LE):Prop:=(0<=p.2.2.ev ρ/\atV (ρ p.1).gg (p.2.1.den ρ)=some (p.2.2.ev ρ).toNat)∨(p.2.2.ev ρ<0/\atV (ρ p.1).gg (p.2.1.den ρ)=none)
structure Sat (ρ:Rho) (s:SS):Prop where
 fs:∀f∈s.fs,0<=f.ev ρ
 bs:∀p∈s.bs,(ρ p.1).bb=p.2
 pw:∀p∈s.pw,0<=p.2.1.ev ρ/\((((ρ p.1).ns.take (p.2.1.ev ρ).toNat).sum:Nat):Int)+p.2.1.ev ρ=p.2.2.ev ρ
 ats:∀p∈s.ats,AtF ρ p
 fls:∀p∈s.fls,0<=p.2.1.ev ρ/\(ρ p.1).gg.fz=true/\(((ρ p.1).gg.fl (p.2.1.ev ρ).toNat:Nat):Int)=p.2.2.ev ρ
 ne:∀e∈s.ne,e.ev ρ≠0
 fz:∀d∈s.fz,(ρ d).gg.fz=true
 sb:∀p∈s.sb,(ρ p.1).gg.sub=ig ρ p.2
def SS.ok (s:SS):Bool :=
 (s.L.all fun p=>p.2.lt s.nx)&&((s.os.all (SO.lt s.nx))&&((s.ty.all (STF.lt s.nx))&&((s.gs.all fun p=>igLt s.nx p.1&&Nat.blt p.2.1 s.nx)&&((s.fs.all (LE.lt s.nx))&&((s.bs.all fun p=>Nat.blt p.1 s.nx) &&
 ((s.pw.all fun p=>Nat.blt p.1 s.nx&&(p.2.1.lt s.nx&&p.2.2.lt s.nx))&&((s.ats.all fun p=>Nat.blt p.1 s.nx&&(p.2.1.lt s.nx&&p.2.2.lt s.nx))&&((s.fls.all fun p=>Nat.blt p.1 s.nx&&(p.2.1.lt s.nx&&p.2.2.lt s.nx))&&((s.ne.all (LE.lt s.nx))&&((s.fz.all fun d=>Nat.blt d s.nx)&&(s.sb.all fun p=>Nat.blt p.1 s.nx&&igLt s.nx p.2)))))))))))
theorem SS.agr {s:SS} (hs:s.ok=true) {ρ ρ':Rho} (h:Agr s.nx ρ ρ'):s.den ρ'=s.den ρ/\(Sat ρ s->Sat ρ' s):=by
 unfold SS.ok at hs
 simp only [Bool.and_eq_true,List.all_eq_true] at hs
 obtain⟨h1,h2,h3,h4,h5,h6,h7,h8,h9,h10,h11,h12⟩:=hs
 refine⟨?_,fun hsat=>⟨fun f hf=>?_,fun p hp=>?_,fun p hp=>?_,fun p hp=>?_,fun p hp=>?_,fun e he=>?_,fun d hd=>?_,fun p hp=>?_⟩⟩
 · unfold SS.den
   congr 1
   · exact List.map_congr_left fun p hp=>by rw [SV.agr h (h1 p hp)]
   · exact List.map_congr_left fun o ho=>SO.agr h (h2 o ho)
   · exact List.map_congr_left fun f hf=>STF.agr h (h3 f hf)
   · exact List.map_congr_left fun p hp=>by rw [ig_agr h (h4 p hp).1,h _ (blt_ok (h4 p hp).2)]
 · rw [LE.agr h (h5 f hf)]; exact hsat.fs f hf
 · rw [h _ (blt_ok (h6 p hp))]; exact hsat.bs p hp
 · obtain⟨k1,k2,k3⟩:=h7 p hp
   rw [LE.agr h k2,LE.agr h k3,h _ (blt_ok k1)]; exact hsat.pw p hp
 · obtain⟨k1,k2,k3⟩:=h8 p hp
   unfold AtF; rw [SC.agr h k2,LE.agr h k3,h _ (blt_ok k1)]; exact hsat.ats p hp
 · obtain⟨k1,k2,k3⟩:=h9 p hp
   rw [LE.agr h k2,LE.agr h k3,h _ (blt_ok k1)]; exact hsat.fls p hp
 · rw [LE.agr h (h10 e he)]; exact hsat.ne e he
 · rw [h _ (blt_ok (h11 d hd))]; exact hsat.fz d hd
 · rw [h _ (blt_ok (h12 p hp).1),ig_agr h (h12 p hp).2]; exact hsat.sb p hp
end Go.Rd
namespace Go.Rt
open Go.Rex Go.RowKit
def clrA (ops:Array Oper):Array Oper:=ops.map fun o=>{ o with guard:=none }
theorem opAt_clr (ops:Array Oper) (i:Nat):opAt (clrA ops) i={ opAt ops i with guard:=none }:=by
 unfold opAt clrA
 rw [Array.getD_eq_getD_getElem?,Array.getD_eq_getD_getElem?,Array.getElem?_map]
 cases ops[i]?<;>rfl
theorem yielded_of {ops:Array Oper} {T:Tm} {g dg:Nat} {b:Bool} {a:Act} {ι:En} {nt:Nat} (hdg:(opAt ops g).dst=some dg) (ht:TmpOk ι nt T a) (hlk:T.at dg=.bool b):Go.yielded ops a.tmps g=some b:=by
 cases ho:ops[g]? with
 | none =>
   unfold opAt at hdg
   rw [Array.getD_eq_getD_getElem?,ho] at hdg
   cases hdg
 | some o =>
   have e:opAt ops g=o:=by unfold opAt; rw [Array.getD_eq_getD_getElem?,ho]; rfl
   rw [e] at hdg
   have hv:=ht.val dg
   rw [hlk] at hv
   have:a.tmps[dg]?=some (.bool b):=by
    rw [Array.getD_eq_getD_getElem?] at hv
    cases h:a.tmps[dg]? with
    | none=>rw [h] at hv; simp [ren,undef] at hv
    | some x=>rw [h] at hv; simpa [ren] using hv
   unfold Go.yielded
   rw [ho]
   simp [hdg,this]
def relI:BinOp->Int->Int->Bool
 | .lss,a,b=>decide (a<b)
 | .leq,a,b=>decide (a<=b)
 | .gtr,a,b=>decide (a > b)
 | .geq,a,b=>decide (a ≥ b)
 | .eql,a,b=>decide (a=b)
 | .neq,a,b=>decide (a≠b)
 | _,_,_=>false
def isRel:BinOp->Bool
 | .lss | .leq | .gtr | .geq | .eql | .neq=>true
 | _=>false
def isArith:BinOp->Bool
 | .add | .sub | .mul=>true
 | _=>false
def arI:BinOp->Int->Int->Int
 | .add,a,b=>a+b
 | .sub,a,b=>a-b
 | .mul,a,b=>a*b
 | _,_,_=>0
def isNilA:AV->Bool
 | .nils=>true
 | .nilp=>true
 | .nilmap=>true
 | _=>false
def Frm (v:AV):Prop:=v=.nils∨∃b o l cap,v=.rsl b o l cap
def FrmP (v:AV):Prop:=v=.nilp∨∃b o,v=.rpt b o
def FrmM (v:AV):Prop:=v=.nilmap∨∃b,v=.rmp b
def NilOk:TypeDesc->AV->AV->Prop
 | .slice _,v,w=>Frm v/\w=.nils
 | .pointer _,v,w=>FrmP v/\w=.nilp
 | .map _ _,v,w=>FrmM v/\w=.nilmap
 | _,_,_=>False
def spl {α:Type} (o:Nat) (l C:List α):List α:=C.take o++l++C.drop (o+l.length)
theorem spl_map {α β:Type} (f:α->β) (o:Nat) (l C:List α):(spl o l C).map f=spl o (l.map f) (C.map f):=by simp [spl]
theorem spl_len {α:Type} {o:Nat} {l C:List α} (h:o+l.length<=C.length):(spl o l C).length=C.length:=by simp only [spl,List.length_append,List.length_take,List.length_drop]; omega
theorem spl_get {α:Type} {o:Nat} {l C:List α} (h:o+l.length<=C.length) (k:Nat):(spl o l C)[k]?=if o<=k/\k<o+l.length then l[k-o]? else C[k]?:=by
 unfold spl
 by_cases h1:k<o
 · rw [if_neg (by omega),List.append_assoc,List.getElem?_append_left (by rw [List.length_take]; omega),List.getElem?_take_of_lt h1]
 · by_cases h2:k<o+l.length
   · rw [if_pos ⟨by omega,h2⟩,List.append_assoc,List.getElem?_append_right (by rw [List.length_take]; omega),List.getElem?_append_left (by rw [List.length_take]; omega),List.length_take,Nat.min_eq_left (by omega)]
   · rw [if_neg (by omega),List.getElem?_append_right (by rw [List.length_append,List.length_take]; omega),List.getElem?_drop]
     congr 1
     rw [List.length_append,List.length_take]; omega
theorem splice_spl {o:Nat} {l C:List AV} (h:o+l.length<=C.length):splice o l C=spl o l C:=by
 apply List.ext_getElem?
 intro k
 rw [splice_get _ _ _ h,spl_get h]
section
variable {P:Program} {n0 nt:Nat} {T T2:Tm} {hp H:Tr AO} {nx X:Pz} {G:GH} {ops:Array Oper} {light:List Nat} {i m d:Nat} {v u:AV}
theorem EvA.at {y:Operand} (h:EvA nt T y u) {B:Nat->Prop} {w0:World} {ι:En} {a:Act} {w:World} (hs:SatG n0 B w0 nt T hp nx G ι a w):a.eval y=ren ι u:=h ι a (hs.1.2 ι (Agree.refl _ _)).1
theorem lvg_guard1 {g dg:Nat} {b:Bool} (hg:(opAt ops i).guard=some (g,b)) (hdg:(opAt ops g).dst=some dg) (hlk:T.at dg=.bool b) (h:LVG P (clrA ops) n0 nt i T hp nx G v):LVG P ops n0 nt i T hp nx G v:=by
 intro B w0 ι a w hs
 have hy:=yielded_of hdg (hs.1.2 ι (Agree.refl _ _)).1 hlk
 rcases h B w0 ι a w hs with ⟨h1,h2⟩ | ⟨h1,h2⟩
 · refine .inl ⟨by simp [Region.wanted,hg,hy],?_⟩
   rw [opAt_clr] at h2
   exact h2
 · rw [opAt_clr] at h1
   simp [Region.wanted] at h1
theorem lvg_guard0 {g dg:Nat} {b b':Bool} (hg:(opAt ops i).guard=some (g,b)) (hdg:(opAt ops g).dst=some dg) (hlk:T.at dg=.bool b') (hne:b'≠b):LVG P ops n0 nt i T hp nx G undefA:=by
 intro B w0 ι a w hs
 have hy:=yielded_of hdg (hs.1.2 ι (Agree.refl _ _)).1 hlk
 refine .inr ⟨?_,by simp [ren_undef]⟩
 simp [Region.wanted,hg,hy,hne]
theorem lvg_guardU {g dg:Nat} {b:Bool} (hg:(opAt ops i).guard=some (g,b)) (hdg:(opAt ops g).dst=some dg) (hlk:T.at dg=undefA):LVG P ops n0 nt i T hp nx G undefA:=by
 intro B w0 ι a w hs
 refine .inr ⟨?_,by simp [ren_undef]⟩
 have hy:Go.yielded ops a.tmps g=none:=by
  have hv:=(hs.1.2 ι (Agree.refl _ _)).1.val dg
  rw [hlk,ren_undef] at hv
  unfold Go.yielded
  cases ho:ops[g]? with
  | none=>rfl
  | some o =>
    have e:opAt ops g=o:=by unfold opAt; rw [Array.getD_eq_getD_getElem?,ho]; rfl
    rw [e] at hdg
    cases h:a.tmps[dg]? with
    | none=>simp [hdg,h]
    | some x =>
      rw [Array.getD_eq_getD_getElem?,h] at hv
      have hv:x=undef:=hv
      simp [hdg,h,hv,undef]
 simp [Region.wanted,hg,hy]
theorem stg_guard1 {R:Tm->Tr AO->Pz->GH->Prop} {g dg:Nat} {b:Bool} (hg:(opAt ops i).guard=some (g,b)) (hdg:(opAt ops g).dst=some dg) (hlk:T.at dg=.bool b) (h:StG P n0 nt (clrA ops) i T hp nx G R):StG P n0 nt ops i T hp nx G R:=by
 intro B w0 ι a w hs
 have hy:=yielded_of hdg (hs.1.2 ι (Agree.refl _ _)).1 hlk
 rcases h B w0 ι a w hs with ⟨h1,h2⟩ | ⟨h1,h2⟩
 · refine .inl ⟨by simp [Region.wanted,hg,hy],?_⟩
   rw [opAt_clr] at h2
   exact h2
 · rw [opAt_clr] at h1
   simp [Region.wanted] at h1
theorem LVG.movE (hg:(opAt ops i).guard=none) {x:Operand} (ho:(opAt ops i).op=.move x∨(opAt ops i).op=.assign x) (hx:EvA nt T x v):LVG P ops n0 nt i T hp nx G v:=by
 refine lvg_mk hg fun B w0 ι a w hs=>?_
 rcases ho with ho | ho<;>(simp only [execOp,ho]; rw [EvA.at hx hs]; rfl)
theorem LVG.extractE (hg:(opAt ops i).guard=none) {x:Operand} {k:Nat} {vs:List AV} (ho:(opAt ops i).op=.extract x k) (hx:EvA nt T x (.tup vs)) (hv:vs[k]?=some v):LVG P ops n0 nt i T hp nx G v:=by
 refine lvg_mk hg fun B w0 ι a w hs=>?_
 simp only [execOp,ho]
 rw [EvA.at hx hs]
 have:(renL ι vs).toArray[k]?=some (ren ι v):=by rw [List.getElem?_toArray,renL_get,hv]; rfl
 simp [ren,Instr.extract,this]
theorem LVG.fieldE (hg:(opAt ops i).guard=none) {t ft:TypeId} {x:Operand} {f off:Nat} {cs:List AV} (ho:(opAt ops i).op=.field t x f) (hf:fieldOff P t f=some (off,ft)) (hx:EvA nt T x (.agg cs)) (hv:∀ι w,(part ft (renL ι cs).toArray off).run P w=.ok (ren ι v) w):LVG P ops n0 nt i T hp nx G v:=by
 obtain⟨fs,fd,h1,h2,h3,h4⟩:=fieldOff_ok hf
 refine lvg_mk hg fun B w0 ι a w hs=>?_
 simp only [execOp,ho]
 rw [EvA.at hx hs]
 simp only [ren,Instr.field,Sem.run_bind,run_und h1,Result.andThen_ok,h2,Go.asAgg,Sem.run_pure]
 rw [h4,h3,hv]
 rfl
theorem LVG.pickE (hg:(opAt ops i).guard=none) {c x y:Operand} {b:Bool} (ho:(opAt ops i).op=.pick c x y) (hc:EvA nt T c (.bool b)) (hx:b=true->EvA nt T x v) (hy:b=false->EvA nt T y v):LVG P ops n0 nt i T hp nx G v:=by
 refine lvg_mk hg fun B w0 ι a w hs=>?_
 simp only [execOp,ho]
 rw [EvA.at hc hs]
 cases b with
 | true=>rw [EvA.at (hx rfl) hs]; simp [ren,asBool]
 | false=>rw [EvA.at (hy rfl) hs]; simp [ren,asBool]
theorem LVG.relE (hg:(opAt ops i).guard=none) {op:BinOp} {t yt:TypeId} {x y:Operand} {k:IntKind} {a b:Int} (ho:(opAt ops i).op=.binOp op t x y yt) (hr:isRel op=true) (hx:EvA nt T x (.int k a)) (hy:EvA nt T y (.int k b)):LVG P ops n0 nt i T hp nx G (.bool (relI op a b)):=by
 refine lvg_mk hg fun B w0 ι a' w hs=>?_
 simp only [execOp,ho]
 rw [EvA.at hx hs,EvA.at hy hs]
 cases op<;>first | (simp [isRel] at hr; done) | (simp [ren,eqGuard,binOp,Op.intCmp,relI]; try rfl)
theorem LVG.arE (hg:(opAt ops i).guard=none) {op:BinOp} {t yt:TypeId} {x y:Operand} {k:IntKind} {a b:Int} (ho:(opAt ops i).op=.binOp op t x y yt) (hr:isArith op=true) (hx:EvA nt T x (.int k a)) (hy:EvA nt T y (.int k b)):LVG P ops n0 nt i T hp nx G (.int k (k.wrap (arI op a b))):=by
 refine lvg_mk hg fun B w0 ι a' w hs=>?_
 simp only [execOp,ho]
 rw [EvA.at hx hs,EvA.at hy hs]
 cases op<;>first | (simp [isArith] at hr; done) | (simp [ren,eqGuard,binOp,Op.intArith,arI]; try rfl)
theorem LVG.bitE (hg:(opAt ops i).guard=none) {op:BinOp} {t yt:TypeId} {x y:Operand} {k:IntKind} {a b:Int} (ho:(opAt ops i).op=.binOp op t x y yt) (hr:op=.and∨op=.or∨op=.xor) (hx:EvA nt T x (.int k a)) (hy:EvA nt T y (.int k b)):∃r,LVG P ops n0 nt i T hp nx G (.int k r):=by
 have h:∃r,∀ι w,(binOp op t (ren ι (.int k a)) (ren ι (.int k b))).run P w=.ok (ren ι (.int k r)) w:=by
  rcases hr with rfl | rfl | rfl<;>exact⟨_,fun ι w=>by simp [ren,binOp,Op.intBits]; rfl⟩
 obtain⟨r,h⟩:=h
 refine⟨r,lvg_mk hg fun B w0 ι a' w hs=>?_⟩
 simp only [execOp,ho]
 rw [EvA.at hx hs,EvA.at hy hs]
 have e:(eqGuard op t x y (ren ι (.int k a)) (ren ι (.int k b))).run P w=.ok () w:=by rcases hr with rfl | rfl | rfl<;>simp [eqGuard]
 simp only [Sem.run_bind,e,Result.andThen_ok,h,Sem.run_pure]
theorem LVG.divE (hg:(opAt ops i).guard=none) {op:BinOp} {t yt:TypeId} {x y:Operand} {k:IntKind} {a b:Int} (ho:(opAt ops i).op=.binOp op t x y yt) (hr:op=.quo∨op=.rem) (hb:b≠0) (hx:EvA nt T x (.int k a)) (hy:EvA nt T y (.int k b)):∃r,(op=.quo->r=k.wrap (a.tdiv b))/\(op=.rem->r=a.tmod b)/\LVG P ops n0 nt i T hp nx G (.int k r):=by
 have h:∃r,(op=.quo->r=k.wrap (a.tdiv b))/\(op=.rem->r=a.tmod b)/\∀ι w,(binOp op t (ren ι (.int k a)) (ren ι (.int k b))).run P w=.ok (ren ι (.int k r)) w:=by
  rcases hr with rfl | rfl
  · exact⟨_,fun _=>rfl,(fun h=>by cases h),fun ι w=>by simp [ren,binOp,Op.intDiv,hb]⟩
  · exact⟨_,(fun h=>by cases h),fun _=>rfl,fun ι w=>by simp [ren,binOp,Op.intDiv,hb]⟩
 obtain⟨r,h1,h2,h⟩:=h
 refine⟨r,h1,h2,lvg_mk hg fun B w0 ι a' w hs=>?_⟩
 simp only [execOp,ho]
 rw [EvA.at hx hs,EvA.at hy hs]
 have e:(eqGuard op t x y (ren ι (.int k a)) (ren ι (.int k b))).run P w=.ok () w:=by rcases hr with rfl | rfl<;>simp [eqGuard]
 simp only [Sem.run_bind,e,Result.andThen_ok,h,Sem.run_pure]
theorem LVG.shE (hg:(opAt ops i).guard=none) {op:BinOp} {t yt:TypeId} {x y:Operand} {k k':IntKind} {a b:Int} (ho:(opAt ops i).op=.binOp op t x y yt) (hr:op=.shl∨op=.shr) (hb:0<=b) (hx:EvA nt T x (.int k a)) (hy:EvA nt T y (.int k' b)):∃r,LVG P ops n0 nt i T hp nx G (.int k r):=by
 have h:∃r,∀ι w,(binOp op t (ren ι (.int k a)) (ren ι (.int k' b))).run P w=.ok (ren ι (.int k r)) w:=by
  have hb':¬b<0:=by omega
  rcases hr with rfl | rfl<;>exact⟨_,fun ι w=>by simp [ren,binOp,Op.shift,hb']; rfl⟩
 obtain⟨r,h⟩:=h
 refine⟨r,lvg_mk hg fun B w0 ι a' w hs=>?_⟩
 simp only [execOp,ho]
 rw [EvA.at hx hs,EvA.at hy hs]
 have e:(eqGuard op t x y (ren ι (.int k a)) (ren ι (.int k' b))).run P w=.ok () w:=by rcases hr with rfl | rfl<;>simp [eqGuard]
 simp only [Sem.run_bind,e,Result.andThen_ok,h,Sem.run_pure]
theorem LVG.strE (hg:(opAt ops i).guard=none) {op:BinOp} {t yt:TypeId} {x y:Operand} {l n l' n':Nat} (ho:(opAt ops i).op=.binOp op t x y yt) (hr:isRel op=true) (hx:EvA nt T x (.str l n)) (hy:EvA nt T y (.str l' n')):∃b,(op=.eql->b=strEq l n l' n')/\(op=.neq->b=!strEq l n l' n')/\LVG P ops n0 nt i T hp nx G (.bool b):=by
 have h:∃b,(op=.eql->b=strEq l n l' n')/\(op=.neq->b=!strEq l n l' n')/\∀ι w,(binOp op t (ren ι (.str l n)) (ren ι (.str l' n'))).run P w=.ok (ren ι (.bool b)) w:=by
  have key:∀ι w,(binOp op t (ren ι (.str l n)) (ren ι (.str l' n'))).run P w=(Op.stringOp op ⟨(bytesOf l n).toArray⟩ ⟨(bytesOf l' n').toArray⟩).run P w:=fun ι w=>by cases op<;>first | (simp [isRel] at hr; done) | simp [ren,binOp]
  cases op<;>first | (simp [isRel] at hr; done) | skip
  · exact⟨_,fun _=>rfl,(fun h=>by cases h),fun ι w=>by rw [key]; simp [Op.stringOp,toList_mk,strEq_iff,ren]⟩
  · exact⟨_,(fun h=>by cases h),fun _=>rfl,fun ι w=>by rw [key]; simp [Op.stringOp,toList_mk,strEq_iff,ren]⟩
  all_goals exact⟨_,(fun h=>by cases h),(fun h=>by cases h),fun ι w=>by rw [key]; simp only [Op.stringOp,Sem.run_pure,ren]; rfl⟩
 obtain⟨b,h1,h2,h⟩:=h
 refine⟨b,h1,h2,lvg_mk hg fun B w0 ι a' w hs=>?_⟩
 simp only [execOp,ho]
 rw [EvA.at hx hs,EvA.at hy hs]
 have e:(eqGuard op t x y (ren ι (.str l n)) (ren ι (.str l' n'))).run P w=.ok () w:=by simp [ren,eqGuard]
 simp only [Sem.run_bind,e,Result.andThen_ok,h,Sem.run_pure]
theorem LVG.notE (hg:(opAt ops i).guard=none) {t:TypeId} {x:Operand} {b:Bool} (ho:(opAt ops i).op=.unOp .not t x) (hx:EvA nt T x (.bool b)):LVG P ops n0 nt i T hp nx G (.bool (!b)):=by
 refine lvg_mk hg fun B w0 ι a w hs=>?_
 simp only [execOp,ho]
 rw [EvA.at hx hs]
 simp [ren,Op.unary]
theorem LVG.convI (hg:(opAt ops i).guard=none) {s t:TypeId} {x:Operand} {ks kt:IntKind} {n:Int} (ho:(opAt ops i).op=.convert s t x) (hs:P.underlying s=some (.int ks)) (ht:P.underlying t=some (.int kt)) (hx:EvA nt T x (.int ks n)):LVG P ops n0 nt i T hp nx G (.int kt (kt.wrap n)):=by
 refine lvg_mk hg fun B w0 ι a w hsat=>?_
 simp only [execOp,ho]
 rw [EvA.at hx hsat]
 simp [ren,convert,run_und hs,run_und ht,Conv.intToInt]
theorem eqNil_run0 {P:Program} {t:TypeId} {dd:TypeDesc} {v w:AV} (D:Nat) (hu:P.underlying t=some dd) (hn:NilOk dd v w) (ι:En) (ww:World):(Op.equalIn (D+1) t (ren ι v) (ren ι w)).run P ww=.ok (isNilA v) ww:=by
 cases dd with
 | slice e =>
   obtain⟨h1,rfl⟩:=hn
   rcases h1 with rfl | ⟨b,o,l,cap,rfl⟩<;>simp [ren,Op.equalIn,run_und hu,isNilA]
 | pointer e =>
   obtain⟨h1,rfl⟩:=hn
   rcases h1 with rfl | ⟨b,o,rfl⟩<;>simp [ren,Op.equalIn,run_und hu,isNilA]
 | map k e =>
   obtain⟨h1,rfl⟩:=hn
   rcases h1 with rfl | ⟨b,rfl⟩<;>simp [ren,Op.equalIn,run_und hu,isNilA]
 | _=>exact hn.elim
theorem nilOk_guard {dd:TypeDesc} {v w:AV} (hn:NilOk dd v w) (ι:En):(∃b,ren ι w=.slice none 0 0/\ren ι v=b/\∃x l c,b=.slice x l c)∨(ren ι w=.pointer none/\∃x,ren ι v=.pointer x)∨(ren ι w=.map none/\∃x,ren ι v=.map x):=by
 cases dd with
 | slice e =>
   obtain⟨h1,rfl⟩:=hn
   rcases h1 with rfl | ⟨b,o,l,cap,rfl⟩
   · exact .inl ⟨_,by simp [ren],rfl,none,0,0,by simp [ren]⟩
   · exact .inl ⟨_,by simp [ren],rfl,some (radr b o l cap),l,cap,by simp [ren]⟩
 | pointer e =>
   obtain⟨h1,rfl⟩:=hn
   rcases h1 with rfl | ⟨b,o,rfl⟩
   · exact .inr (.inl ⟨by simp [ren],none,by simp [ren]⟩)
   · exact .inr (.inl ⟨by simp [ren],some ⟨b,o,none⟩,by simp [ren]⟩)
 | map k e =>
   obtain⟨h1,rfl⟩:=hn
   rcases h1 with rfl | ⟨b,rfl⟩
   · exact .inr (.inr ⟨by simp [ren],none,by simp [ren]⟩)
   · exact .inr (.inr ⟨by simp [ren],some b,by simp [ren]⟩)
 | _=>exact hn.elim
theorem LVG.eqNil (hg:(opAt ops i).guard=none) {t yt:TypeId} {x y:Operand} {w:AV} {dd:TypeDesc} {neq:Bool} (ho:(opAt ops i).op=.binOp (bif neq then .neq else .eql) t x y yt) (hu:P.underlying t=some dd) (hx:EvA nt T x v) (hy:EvA nt T y w) (hn:NilOk dd v w):LVG P ops n0 nt i T hp nx G (.bool (Bool.xor neq (isNilA v))):=by
 refine lvg_mk hg fun B w0 ι a' ww hs=>?_
 have hr:(Op.equal t (ren ι v) (ren ι w)).run P ww=.ok (isNilA v) ww:=eqNil_run0 9999 hu hn ι ww
 simp only [execOp,ho]
 rw [EvA.at hx hs,EvA.at hy hs]
 cases neq<;>rcases nilOk_guard hn ι with ⟨_,e1,rfl,x,l,cp,e2⟩ | ⟨e1,x,e2⟩ | ⟨e1,x,e2⟩<;>(rw [e1,e2] at hr ⊢; simp [eqGuard,binOp,hr,ren])
noncomputable def fillA (place:Nat->Option (Nat × Nat)):List (Nat × AV)->List AV->Option (List AV)
 | [],cs=>some cs
 | p::ps,cs=>match place p.1 with
   | none=>none
   | some (off,size)=>if p.2.cells.length=size/\off+size<=cs.length then fillA place ps (spl off p.2.cells cs) else none
theorem fillA_ok {place:Nat->Option (Nat × Nat)} (ι:En):∀{ps:List (Nat × AV)} {cs cs':List AV},fillA place ps cs=some cs'->Instr.fill place (renL ι cs).toArray (ps.map fun p=>(p.1,ren ι p.2))=some (renL ι cs').toArray
 | [],cs,cs',h=>by cases h; rfl
 | p::ps,cs,cs',h=>by
   unfold fillA at h
   cases hp:place p.1 with
   | none=>rw [hp] at h; cases h
   | some q =>
     obtain⟨off,size⟩:=q
     rw [hp] at h
     simp only at h
     split at h
     · rename_i hc
       obtain⟨h1,h2⟩:=hc
       simp only [List.map_cons,Instr.fill,hp]
       rw [ren_cells]
       have e1:(renL ι p.2.cells).toArray.size=size:=by simp [renL_length,h1]
       have e2:(renL ι cs).toArray.size=cs.length:=by simp [renL_length]
       rw [if_neg (by rw [e1,e2]; simp; omega)]
       rw [<-Array.foldl_toList,Array.toList_zipIdx,foldl_put off,Nat.add_zero,arrayPut_ren ι _ _ _ (by rw [h1]; exact h2),splice_spl (by rw [h1]; exact h2)]
       exact fillA_ok ι h
     · cases h
def EvP (nt:Nat) (T:Tm):List (Nat × Operand)->List (Nat × AV)->Prop
 | [],[]=>True
 | x::xs,v::vs=>x.1=v.1/\EvA nt T x.2 v.2/\EvP nt T xs vs
 | _,_=>False
theorem EvP.map {ι:En} {a:Act} (ha:TmpOk ι nt T a):∀{xs:List (Nat × Operand)} {vs:List (Nat × AV)},EvP nt T xs vs->xs.map (fun p=>(p.1,a.eval p.2))=vs.map fun p=>(p.1,ren ι p.2)
 | [],[],_=>rfl
 | x::xs,v::vs,h=>by
   simp only [List.map_cons]
   rw [h.1,h.2.1 ι a ha,EvP.map ha h.2.2]
 | [],_::_,h=>h.elim
 | _::_,[],h=>h.elim
theorem LVG.buildE (hg:(opAt ops i).guard=none) {t:TypeId} {z:AV} {fs:Array Field} {ps:Array (Nat × Operand)} {places:List (Nat × Nat)} {vs:List (Nat × AV)} {cs:List AV} (ho:(opAt ops i).op=.build t ps) (hz:zeroOf P t=some z) (hu:P.underlying t=some (.struct fs))
  (hp':fs.toList.mapM (fun f=>(P.info? f.type).map fun i=>(f.offset,i.size))=some places) (hv:EvP nt T ps.toList vs) (h:fillA (fun i=>places[i]?) vs z.cells=some cs):LVG P ops n0 nt i T hp nx G (.agg cs):=by
 obtain⟨j,zv,h1,h2,h3,h4⟩:=zeroOf_ok hz
 refine lvg_mk hg fun B w0 ι a w hs=>?_
 have ha:=(hs.1.2 ι (Agree.refl _ _)).1
 have hz':zv.cells=(renL ι z.cells).toArray:=by rw [<-absV_ren 8 zv z h3 ι,ren_cells]
 have hb:P.built t (ps.map fun x=>(x.1,a.eval x.2)).toList=some (renL ι cs).toArray:=by
  unfold Program.built
  simp only [h1,hu,h2,hp']
  rw [evals_parts,hz',EvP.map ha hv,<-fillA_ok ι h]
  congr 1
  funext i
  simp
 simp only [execOp,ho,Sem.run_bind]
 rw [show (ps.map fun x=>match x with | (i,x)=>(i,a.eval x))=ps.map fun x=>(x.1,a.eval x.2) from rfl,run_build w t _ _ hb]
 simp [ren]
theorem run_len (hg:(opAt ops i).guard=none) {c:Call} {t:TypeId} {ats:List TypeId} {x:Operand} (ho:(opAt ops i).op=.call c) (hc:c.callee=.builtin .len) (hats:c.argTypes.toList=t::ats) (hxa:c.args.toList=[x]) (hx:EvA nt T x u) {n:Nat} (hl:∀ι w,(Builtin.len_ c.argTypes (opAt ops i).type #[ren ι u]).run P w=.ok (.int .i64 (n:Int)) w):LVG P ops n0 nt i T hp nx G (.int .i64 (.ofNat n)):=by
 refine lvg_mk hg fun B w0 ι a w hs=>?_
 have hargs:c.args.map a.eval=#[ren ι u]:=by
  rw [map_mk,hxa]
  simp only [List.map_cons,List.map_nil]
  rw [EvA.at hx hs]
 simp only [execOp,ho,resolve,hc,hargs]
 simp only [Sem.run_bind,Sem.run_pure,Result.andThen_ok,invoke,builtin]
 rw [hl]
 simp [ren]
theorem LVG.lenE (hg:(opAt ops i).guard=none) {c:Call} {t e:TypeId} {ats:List TypeId} {x:Operand} {n:Nat} (ho:(opAt ops i).op=.call c) (hc:c.callee=.builtin .len) (hats:c.argTypes.toList=t::ats) (hxa:c.args.toList=[x]) (hu:P.underlying t=some (.slice e)) (hx:EvA nt T x u) (hf:(u=.nils/\n=0)∨∃b o cp,u=.rsl b o n cp):LVG P ops n0 nt i T hp nx G (.int .i64 (.ofNat n)):=by
 have ht:c.argTypes[0]?=some t:=by rw [<-Array.getElem?_toList,hats]; rfl
 refine run_len hg ho hc hats hxa hx fun ι w=>?_
 rcases hf with ⟨rfl,rfl⟩ | ⟨b,o,cp,rfl⟩ <;>
 · simp only [ren,Builtin.len_,ht]
   simp only [List.getElem?_toArray,List.getElem?_cons_zero,Sem.run_bind,run_und hu,Result.andThen_ok]
   simp [goInt]
theorem LVG.lenStr (hg:(opAt ops i).guard=none) {c:Call} {t:TypeId} {ats:List TypeId} {x:Operand} {l n:Nat} (ho:(opAt ops i).op=.call c) (hc:c.callee=.builtin .len) (hats:c.argTypes.toList=t::ats) (hxa:c.args.toList=[x]) (hu:P.underlying t=some .string) (hx:EvA nt T x (.str l n)):LVG P ops n0 nt i T hp nx G (.int .i64 (.ofNat l)):=by
 have ht:c.argTypes[0]?=some t:=by rw [<-Array.getElem?_toList,hats]; rfl
 refine run_len hg ho hc hats hxa hx fun ι w=>?_
 simp only [ren,Builtin.len_,ht]
 simp only [List.getElem?_toArray,List.getElem?_cons_zero,Sem.run_bind,run_und hu,Result.andThen_ok]
 simp [goInt,ByteArray.size,bytesOf_length]
end
end Go.Rt
namespace Go.Rd
open Go.Rex Go.RowKit Go.Rt
inductive R where | ok | bad (n:Nat) (s:SS) | both (a b:Unit->R)
def R.and (a b:R):R:=.both (fun _=>a) (fun _=>b)
def R.Ok:R->Prop
 | .ok=>True
 | .bad _ _=>False
 | .both a b=>(a ()).Ok/\(b ()).Ok
theorem R.and_ok {a b:R} (h:(a.and b).Ok):a.Ok/\b.Ok:=h
def R.okB:R->Bool
 | .ok=>true
 | .bad _ _=>false
 | .both a b=>bif (a ()).okB then (b ()).okB else false
theorem R.okB_ok:∀{r:R},r.okB=true->r.Ok
 | .ok,_=>trivial
 | .bad _ _,h=>by cases h
 | .both a b,h=>by
   have h:(bif (a ()).okB then (b ()).okB else false)=true:=h
   cases ha:(a ()).okB with
   | false=>rw [ha] at h; cases h
   | true=>rw [ha] at h; exact⟨okB_ok ha,okB_ok h⟩
structure Cf where
 P:Program
 Φ:Forms
 nt:Nat
 keys:List (TypeId × KK)
structure Ok (c:Cx) (T:Tm) (G:GH) (Γ:Gam) (ρ:Rho) (s:SS):Prop where
 sat:Sat ρ s
 q:Q c T G Γ (s.den ρ)
def Pst (c:Cx) (T:Tm) (G:GH) (Γ:Gam) (s:SS) (ρ:Rho) (H:Rho->SS->Prop):Prop:=∃ρ' s',Agr s.nx ρ ρ'/\s.nx<=s'.nx/\Ok c T G Γ ρ' s'/\H ρ' s'
section
variable {c:Cx} {T:Tm} {G:GH} {Γ:Gam} {ρ ρ':Rho} {s s':SS}
theorem Pst.here {H:Rho->SS->Prop} (h:Ok c T G Γ ρ s) (hh:H ρ s):Pst c T G Γ s ρ H:=⟨ρ,s,Agr.refl _ _,Nat.le_refl _,h,hh⟩
theorem Pst.mk {H:Rho->SS->Prop} (h1:Agr s.nx ρ ρ') (h2:s.nx<=s'.nx) (h:Ok c T G Γ ρ' s') (hh:H ρ' s'):Pst c T G Γ s ρ H:=⟨ρ',s',h1,h2,h,hh⟩
theorem Pst.bind {H H':Rho->SS->Prop} (h:Pst c T G Γ s ρ H) (hh:∀ρ' s',Agr s.nx ρ ρ'->s.nx<=s'.nx->Ok c T G Γ ρ' s'->H ρ' s'->Pst c T G Γ s' ρ' H'):Pst c T G Γ s ρ H':=by
 obtain⟨ρ1,s1,a1,n1,o1,h1⟩:=h
 obtain⟨ρ2,s2,a2,n2,o2,h2⟩:=hh ρ1 s1 a1 n1 o1 h1
 exact⟨ρ2,s2,a1.trans a2 n1,by omega,o2,h2⟩
theorem Pst.mono {H H':Rho->SS->Prop} (h:Pst c T G Γ s ρ H) (hh:∀ρ' s',Agr s.nx ρ ρ'->s.nx<=s'.nx->Ok c T G Γ ρ' s'->H ρ' s'->H' ρ' s'):Pst c T G Γ s ρ H':=by
 obtain⟨ρ1,s1,a1,n1,o1,h1⟩:=h
 exact⟨ρ1,s1,a1,n1,o1,hh _ _ a1 n1 o1 h1⟩
def lkS:List (Nat × SV)->Nat->Option SV
 | [],_=>none
 | p::l,k=>bif Nat.beq p.1 k then some p.2 else lkS l k
theorem lkS_den:∀{L:List (Nat × SV)} {k:Nat} {v:SV},lkS L k=some v->lk (L.map fun p=>(p.1,p.2.den ρ)) k=some (v.den ρ)
 | [],k,v,h=>by cases h
 | p::l,k,v,h=>by
   have h:(bif Nat.beq p.1 k then some p.2 else lkS l k)=some v:=h
   show (bif Nat.beq p.1 k then some (p.2.den ρ) else lk (l.map fun p=>(p.1,p.2.den ρ)) k)=_
   cases hb:Nat.beq p.1 k with
   | true=>rw [hb] at h; cases h; rfl
   | false=>rw [hb] at h; exact lkS_den h
def svC:AV->Option SC
 | .bool b=>some (.bool (.k b))
 | .int k n=>some (.int k (.k n))
 | .str l m=>some (.strc l m)
 | .float k b=>some (.fltc k b)
 | .nilp=>some .nilp | .nils=>some .nils | .nilmap=>some .nilmap | .nilfunc=>some .nilfunc
 | .func (.func f) [] []=>some (.fn f)
 | _=>none
theorem svC_ok {a:AV} {x:SC} (h:svC a=some x) (ρ:Rho):x.den ρ=a:=by
 unfold svC at h
 split at h<;>first | (cases h; done) | (cases h; simp [SC.den,BE.ev,LE.ev_k])
def svL:List AV->Option (List SC)
 | []=>some []
 | a::l=>match svC a,svL l with | some x,some xs=>some (x::xs) | _,_=>none
theorem svL_ok (ρ:Rho):∀{l:List AV} {xs:List SC},svL l=some xs->denL ρ xs=l
 | [],xs,h=>by cases h; rfl
 | a::l,xs,h=>by
   unfold svL at h
   split at h
   · rename_i x xs' h1 h2
     cases h
     show x.den ρ::denL ρ xs'=_
     rw [svC_ok h1 ρ,svL_ok ρ h2]
   · cases h
def svA (a:AV):Option SV:=match a with
 | .agg l=>(svL l).map (.v true)
 | .tup []=>some .undef
 | a=>(svC a).map fun x=>.v false [x]
theorem svA_ok {a:AV} {v:SV} (h:svA a=some v) (ρ:Rho):v.den ρ=a:=by
 unfold svA at h
 split at h
 · rename_i l
   cases hl:svL l with
   | none=>rw [hl] at h; cases h
   | some xs =>
     rw [hl] at h; cases h
     show AV.agg (denL ρ xs)=_
     rw [svL_ok ρ hl]
 · cases h; rfl
 · rename_i h1 h2
   cases hl:svC a with
   | none=>rw [hl] at h; cases h
   | some x=>rw [hl] at h; cases h; exact svC_ok hl ρ
def opv (s:SS) (x:Operand):Option SV:=match x with
 | .tmp t=>lkS s.L t
 | .const v=>(absV 8 v).bind svA
 | .func f=>some (.v false [.fn f])
 | .global _=>none
theorem opv_ok {x:Operand} {v:SV} (h:opv s x=some v) (hq:Q c T G Γ (s.den ρ)):EvA c.nt T x (v.den ρ):=by
 cases x with
 | tmp t=>exact ev_tmp (hq.at_ _ _ (lkS_den h))
 | const cv =>
   have h:(absV 8 cv).bind svA=some v:=h
   cases ha:absV 8 cv with
   | none=>rw [ha] at h; cases h
   | some a =>
     rw [ha] at h
     have h:=svA_ok (v:=v) h ρ
     rw [h]
     exact fun ι a' _=>(absV_ren 8 cv a ha ι).symm
 | func f =>
   cases h
   exact fun ι a' _=>by simp [SV.den,den1,denL,SC.den,ren,renL,renFn,Act.eval]
 | global g=>cases h
def ent (s:SS) (e:LE):Bool:=bif pv 3 s.nx s.fs e then true else bif pv 4 s.nx s.fs e then true else bif pv 5 s.nx s.fs e then true else pv 10 s.nx s.fs e
def entS (s:SS) (e:LE):Bool:=pv 4 s.nx s.fs e
theorem entF_ok {s:SS} {ρ:Rho} {e:LE} (hs:∀f∈s.fs,0<=f.ev ρ) (h:ent s e=true):0<=e.ev ρ:=by
 unfold ent at h
 cases h1:pv 3 s.nx s.fs e with
 | true=>exact pv_ok hs h1
 | false=>cases h2:pv 4 s.nx s.fs e with
   | true=>exact pv_ok hs h2
   | false=>cases h3:pv 5 s.nx s.fs e with
     | true=>exact pv_ok hs h3
     | false=>rw [h1,h2,h3] at h; exact pv_ok hs h
theorem ent_ok {e:LE} (h:ent s e=true) (hs:Sat ρ s):0<=e.ev ρ:=entF_ok hs.fs h
theorem entS_ok {e:LE} (h:entS s e=true) (hs:Sat ρ s):0<=e.ev ρ:=pv_ok hs.fs h
def lkB:List (Nat × Bool)->Nat->Option Bool
 | [],_=>none
 | p::l,k=>bif Nat.beq p.1 k then some p.2 else lkB l k
theorem lkB_ok:∀{l:List (Nat × Bool)} {k:Nat} {b:Bool},lkB l k=some b->(k,b)∈l
 | [],k,b,h=>by cases h
 | p::l,k,b,h=>by
   have h:(bif Nat.beq p.1 k then some p.2 else lkB l k)=some b:=h
   cases hb:Nat.beq p.1 k with
   | true=>rw [hb] at h; cases h; have:=Nat.eq_of_beq_eq_true hb; subst this; exact List.mem_cons_self ..
   | false=>rw [hb] at h; exact List.mem_cons_of_mem _ (lkB_ok h)
def neS (s:SS) (e:LE):Bool:=s.ne.any fun x=>x.same e||x.same ((LE.k 0).sub e)
theorem neS_ok {e:LE} (h:neS s e=true) (hs:Sat ρ s):e.ev ρ≠0:=by
 obtain⟨x,h1,h2⟩:=List.any_eq_true.1 h
 have:=hs.ne x h1
 rw [Bool.or_eq_true] at h2
 rcases h2 with h2 | h2
 · rw [<-LE.same_ok h2 ρ]; exact this
 · rw [LE.same_ok h2 ρ,LE.ev_sub,LE.ev_k] at this; omega
def addN (s:SS) (e:LE):SS:=⟨s.nx,s.L,s.os,s.ty,s.gs,s.fs,s.bs,s.pw,s.ats,s.fls,e::s.ne,s.fz,s.sb⟩
theorem Ok.addN {e:LE} (h:Ok c T G Γ ρ s) (he:e.ev ρ≠0):Ok c T G Γ ρ (addN s e):=⟨⟨h.sat.fs,h.sat.bs,h.sat.pw,h.sat.ats,h.sat.fls,fun f hf=>by
 rcases List.mem_cons.1 hf with rfl | hf
 · exact he
 · exact h.sat.ne f hf,h.sat.fz,h.sat.sb⟩,h.q⟩
def kb (s:SS):BE->Option Bool
 | .k b=>some b
 | .v x=>lkB s.bs x
 | .nv x=>(lkB s.bs x).map (!·)
 | .ge e=>bif entS s e then some true else bif entS s ((LE.k (-1)).sub e) then some false else none
 | .eq e=>bif entS s e&&entS s ((LE.k 0).sub e) then some true else bif neS s e||(entS s (e.addc (-1))||entS s ((LE.k (-1)).sub e)) then some false else none
 | .ne e=>bif entS s e&&entS s ((LE.k 0).sub e) then some false else bif neS s e||(entS s (e.addc (-1))||entS s ((LE.k (-1)).sub e)) then some true else none
theorem kb_eq {e:LE} {r:Bool} (h:(bif entS s e&&entS s ((LE.k 0).sub e) then some true else bif neS s e||(entS s (e.addc (-1))||entS s ((LE.k (-1)).sub e)) then some false else none)=some r) (hs:Sat ρ s):decide (e.ev ρ=0)=r:=by
 cases h1:(entS s e&&entS s ((LE.k 0).sub e)) with
 | true =>
   rw [h1] at h; cases h
   rw [Bool.and_eq_true] at h1
   have a:=entS_ok h1.1 hs
   have b:=entS_ok h1.2 hs
   rw [LE.ev_sub,LE.ev_k] at b
   exact decide_eq_true (by omega)
 | false =>
   rw [h1] at h
   cases h2:(neS s e||(entS s (e.addc (-1))||entS s ((LE.k (-1)).sub e))) with
   | true =>
     rw [h2] at h; cases h
     rw [Bool.or_eq_true,Bool.or_eq_true] at h2
     rcases h2 with h2 | h2 | h2
     · exact decide_eq_false (neS_ok h2 hs)
     · have b:=entS_ok h2 hs; rw [LE.ev_addc] at b; exact decide_eq_false (by omega)
     · have b:=entS_ok h2 hs; rw [LE.ev_sub,LE.ev_k] at b; exact decide_eq_false (by omega)
   | false=>rw [h2] at h; cases h
theorem kb_ok {b:BE} {r:Bool} (h:kb s b=some r) (hs:Sat ρ s):b.ev ρ=r:=by
 cases b with
 | k b=>cases h; rfl
 | v x=>exact hs.bs _ (lkB_ok h)
 | nv x =>
   have h:(lkB s.bs x).map (!·)=some r:=h
   cases hl:lkB s.bs x with
   | none=>rw [hl] at h; cases h
   | some q=>rw [hl] at h; cases h; show (!(ρ x).bb)=_; rw [hs.bs _ (lkB_ok hl)]
 | ge e =>
   have h:(bif entS s e then some true else bif entS s ((LE.k (-1)).sub e) then some false else none)=some r:=h
   cases h1:entS s e with
   | true=>rw [h1] at h; cases h; exact decide_eq_true (entS_ok h1 hs)
   | false =>
     rw [h1] at h
     cases h2:entS s ((LE.k (-1)).sub e) with
     | true=>rw [h2] at h; cases h; have:=entS_ok h2 hs; rw [LE.ev_sub,LE.ev_k] at this; exact decide_eq_false (by omega)
     | false=>rw [h2] at h; cases h
 | eq e=>exact kb_eq h hs
 | ne e =>
   have h:(bif entS s e&&entS s ((LE.k 0).sub e) then some false else bif neS s e||(entS s (e.addc (-1))||entS s ((LE.k (-1)).sub e)) then some true else none)=some r:=h
   have:=kb_eq (s:=s) (e:=e) (r:=!r) (ρ:=ρ) (by
    cases h1:(entS s e&&entS s ((LE.k 0).sub e)) with
    | true=>rw [h1] at h; cases h; rfl
    | false =>
      rw [h1] at h
      cases h2:(neS s e||(entS s (e.addc (-1))||entS s ((LE.k (-1)).sub e))) with
      | true=>rw [h2] at h; cases h; rfl
      | false=>rw [h2] at h; cases h) hs
   show (!decide (e.ev ρ=0))=r
   rw [this,Bool.not_not]
def addF (s:SS) (e:LE):SS:=⟨s.nx,s.L,s.os,s.ty,s.gs,e::s.fs,s.bs,s.pw,s.ats,s.fls,s.ne,s.fz,s.sb⟩
theorem Ok.addF {e:LE} (h:Ok c T G Γ ρ s) (he:0<=e.ev ρ):Ok c T G Γ ρ (addF s e):=⟨⟨fun f hf=>by
 rcases List.mem_cons.1 hf with rfl | hf
 · exact he
 · exact h.sat.fs f hf,h.sat.bs,h.sat.pw,h.sat.ats,h.sat.fls,h.sat.ne,h.sat.fz,h.sat.sb⟩,h.q⟩
def addB (s:SS) (x:Nat) (b:Bool):SS:=⟨s.nx,s.L,s.os,s.ty,s.gs,s.fs,(x,b)::s.bs,s.pw,s.ats,s.fls,s.ne,s.fz,s.sb⟩
theorem Ok.addB {x:Nat} {b:Bool} (h:Ok c T G Γ ρ s) (he:(ρ x).bb=b):Ok c T G Γ ρ (addB s x b):=⟨⟨h.sat.fs,fun p hp=>by
 rcases List.mem_cons.1 hp with rfl | hp
 · exact he
 · exact h.sat.bs p hp,h.sat.pw,h.sat.ats,h.sat.fls,h.sat.ne,h.sat.fz,h.sat.sb⟩,h.q⟩
def addN1 (s:SS) (e:LE):SS:=bif entS s e then addF (addN s e) (e.addc (-1)) else addN s e
theorem Ok.addN1 {e:LE} (h:Ok c T G Γ ρ s) (he:e.ev ρ≠0):Ok c T G Γ ρ (addN1 s e):=by
 unfold Rd.addN1
 cases hb:entS s e with
 | false=>exact h.addN he
 | true =>
   have:=entS_ok hb h.sat
   exact (h.addN he).addF (by rw [LE.ev_addc]; omega)
theorem addN1_nx (s:SS) (e:LE):(addN1 s e).nx=s.nx/\∀ρ,(addN1 s e).den ρ=s.den ρ:=by
 unfold Rd.addN1
 cases entS s e<;>exact⟨rfl,fun _=>rfl⟩
def asm (s:SS) (b:BE) (r:Bool):SS:=match b,r with
 | .v x,r=>addB s x r
 | .nv x,r=>addB s x (!r)
 | .ge e,true=>addF s e
 | .ge e,false=>addF s ((LE.k (-1)).sub e)
 | .eq e,true=>addF (addF s e) ((LE.k 0).sub e)
 | .ne e,false=>addF (addF s e) ((LE.k 0).sub e)
 | .eq e,false=>addN1 s e
 | .ne e,true=>addN1 s e
 | _,_=>s
theorem Ok.asm {b:BE} {r:Bool} (h:Ok c T G Γ ρ s) (he:b.ev ρ=r):Ok c T G Γ ρ (asm s b r):=by
 have eq2:∀e:LE,e.ev ρ=0->Ok c T G Γ ρ (Rd.addF (Rd.addF s e) ((LE.k 0).sub e)):=fun e h0=>(h.addF (by omega)).addF (by rw [LE.ev_sub,LE.ev_k]; omega)
 cases b with
 | k b=>cases r<;>exact h
 | v x=>exact h.addB he
 | nv x=>exact h.addB (by rw [<-he]; simp [BE.ev])
 | ge e=>cases r with
   | true=>exact h.addF (of_decide_eq_true he)
   | false=>exact h.addF (by have:=of_decide_eq_false he; rw [LE.ev_sub,LE.ev_k]; omega)
 | eq e=>cases r with
   | true=>exact eq2 e (of_decide_eq_true he)
   | false=>exact h.addN1 (of_decide_eq_false he)
 | ne e=>cases r with
   | true=>exact h.addN1 (by have he:(!decide (e.ev ρ=0))=true:=he; simpa using he)
   | false =>
     have he:(!decide (e.ev ρ=0))=false:=he
     exact eq2 e (by simpa using he)
theorem asm_nx (s:SS) (b:BE) (r:Bool):(asm s b r).nx=s.nx/\∀ρ,(asm s b r).den ρ=s.den ρ:=by
 cases b<;>cases r<;>first | exact⟨rfl,fun _=>rfl⟩ | exact addN1_nx _ _
def split (s:SS) (b:BE) (Kt Kf:SS->R):R:=match kb s b with
 | some true=>Kt s
 | some false=>Kf s
 | none=>(Kt (asm s b true)).and (Kf (asm s b false))
theorem split_ok {b:BE} {Kt Kf:SS->R} (h:(split s b Kt Kf).Ok) (hk:Ok c T G Γ ρ s):∃s',s'.nx=s.nx/\(∀ρ,s'.den ρ=s.den ρ)/\Ok c T G Γ ρ s'/\((b.ev ρ=true/\(Kt s').Ok)∨(b.ev ρ=false/\(Kf s').Ok)):=by
 unfold split at h
 cases hb:kb s b with
 | some r =>
   have he:=kb_ok hb hk.sat
   rw [hb] at h
   cases r with
   | true=>exact⟨s,rfl,fun _=>rfl,hk,.inl ⟨he,h⟩⟩
   | false=>exact⟨s,rfl,fun _=>rfl,hk,.inr ⟨he,h⟩⟩
 | none =>
   rw [hb] at h
   obtain⟨h1,h2⟩:=R.and_ok h
   cases he:b.ev ρ with
   | true=>exact⟨_,(asm_nx s b true).1,(asm_nx s b true).2,hk.asm he,.inl ⟨rfl,h1⟩⟩
   | false=>exact⟨_,(asm_nx s b false).1,(asm_nx s b false).2,hk.asm he,.inr ⟨rfl,h2⟩⟩
def bump (s:SS):SS:=⟨s.nx+1,s.L,s.os,s.ty,s.gs,s.fs,s.bs,s.pw,s.ats,s.fls,s.ne,s.fz,s.sb⟩
def fresh (s:SS) (K:Nat->SS->R):R:=bif s.ok then K s.nx (bump s) else .bad 1 s
theorem fresh_ok {K:Nat->SS->R} (h:(fresh s K).Ok) (hk:Ok c T G Γ ρ s) (u:U):(K s.nx (bump s)).Ok/\Agr s.nx ρ (ρ.up s.nx u)/\Ok c T G Γ (ρ.up s.nx u) (bump s)/\(ρ.up s.nx u) s.nx=u:=by
 unfold fresh at h
 cases hs:s.ok with
 | false=>rw [hs] at h; cases h
 | true =>
   rw [hs] at h
   have ha:=agr_up ρ s.nx u
   obtain⟨e1,e2⟩:=SS.agr hs ha
   have:=e2 hk.sat
   exact⟨h,ha,⟨⟨this.fs,this.bs,this.pw,this.ats,this.fls,this.ne,this.fz,this.sb⟩,by
    have hq:=hk.q
    rw [<-e1] at hq
    exact hq⟩,up_at _ _ _⟩
def addTy (s:SS) (f:STF):SS:=⟨s.nx,s.L,s.os,f::s.ty,s.gs,s.fs,s.bs,s.pw,s.ats,s.fls,s.ne,s.fz,s.sb⟩
theorem Ok.addTy {f:STF} (h:Ok c T G Γ ρ s) (hf:TOk c.P c.Φ G Γ (f.den ρ)):Ok c T G Γ ρ (addTy s f):=⟨⟨h.sat.fs,h.sat.bs,h.sat.pw,h.sat.ats,h.sat.fls,h.sat.ne,h.sat.fz,h.sat.sb⟩,by
 have q:=h.q
 refine⟨q.ml,q.at_,q.ht0,q.rl,q.grow,q.own,q.new,q.nd,q.ht,fun x hx=>?_,q.gs⟩
 rcases List.mem_cons.1 hx with rfl | hx
 · exact hf
 · exact q.ty x hx⟩
def addPw (s:SS) (p:Nat × LE × LE):SS:=⟨s.nx,s.L,s.os,s.ty,s.gs,s.fs,s.bs,p::s.pw,s.ats,s.fls,s.ne,s.fz,s.sb⟩
theorem Ok.addPw {p:Nat × LE × LE} (h:Ok c T G Γ ρ s) (hp:0<=p.2.1.ev ρ/\((((ρ p.1).ns.take (p.2.1.ev ρ).toNat).sum:Nat):Int)+p.2.1.ev ρ=p.2.2.ev ρ):Ok c T G Γ ρ (addPw s p):=⟨⟨h.sat.fs,h.sat.bs,fun q hq=>by
 rcases List.mem_cons.1 hq with rfl | hq
 · exact hp
 · exact h.sat.pw q hq,h.sat.ats,h.sat.fls,h.sat.ne,h.sat.fz,h.sat.sb⟩,h.q⟩
def addAt (s:SS) (p:Nat × SC × LE):SS:=⟨s.nx,s.L,s.os,s.ty,s.gs,s.fs,s.bs,s.pw,p::s.ats,s.fls,s.ne,s.fz,s.sb⟩
theorem Ok.addAt {p:Nat × SC × LE} (h:Ok c T G Γ ρ s) (hp:AtF ρ p):Ok c T G Γ ρ (addAt s p):=⟨⟨h.sat.fs,h.sat.bs,h.sat.pw,fun q hq=>by
 rcases List.mem_cons.1 hq with rfl | hq
 · exact hp
 · exact h.sat.ats q hq,h.sat.fls,h.sat.ne,h.sat.fz,h.sat.sb⟩,h.q⟩
def addFl (s:SS) (p:Nat × LE × LE):SS:=⟨s.nx,s.L,s.os,s.ty,s.gs,s.fs,s.bs,s.pw,s.ats,p::s.fls,s.ne,s.fz,s.sb⟩
theorem Ok.addFl {p:Nat × LE × LE} (h:Ok c T G Γ ρ s) (hp:0<=p.2.1.ev ρ/\(ρ p.1).gg.fz=true/\(((ρ p.1).gg.fl (p.2.1.ev ρ).toNat:Nat):Int)=p.2.2.ev ρ):Ok c T G Γ ρ (addFl s p):=⟨⟨h.sat.fs,h.sat.bs,h.sat.pw,h.sat.ats,fun q hq=>by
 rcases List.mem_cons.1 hq with rfl | hq
 · exact hp
 · exact h.sat.fls q hq,h.sat.ne,h.sat.fz,h.sat.sb⟩,h.q⟩
def addG (s:SS) (p:Nat × Nat × Bool):SS:=⟨s.nx,s.L,s.os,s.ty,p::s.gs,s.fs,s.bs,s.pw,s.ats,s.fls,s.ne,s.fz,s.sb⟩
theorem Ok.addG {p:Nat × Nat × Bool} (h:Ok c T G Γ ρ s) (hp:ig ρ p.1<Γ.ng/\Γ.gd (ig ρ p.1)=(ρ p.2.1).gg/\(p.2.2=true->(ig ρ p.1∈c.Sg∨c.Γ0.ng<=ig ρ p.1)/\(ρ p.2.1).gg.fz=false/\0<ig ρ p.1)):Ok c T G Γ ρ (addG s p):=⟨⟨h.sat.fs,h.sat.bs,h.sat.pw,h.sat.ats,h.sat.fls,h.sat.ne,h.sat.fz,h.sat.sb⟩,by
 have q:=h.q
 refine⟨q.ml,q.at_,q.ht0,q.rl,q.grow,q.own,q.new,q.nd,q.ht,q.ty,fun x hx=>?_⟩
 rcases List.mem_cons.1 hx with rfl | hx
 · exact hp
 · exact q.gs x hx⟩
def ghost:List (Nat × Nat × Bool)->Nat->Option Nat
 | [],_=>none
 | p::l,g=>bif Nat.beq p.1 g then some p.2.1 else ghost l g
theorem ghost_mem:∀{l:List (Nat × Nat × Bool)} {g d:Nat},ghost l g=some d->∃w,(g,d,w)∈l
 | [],g,d,h=>by cases h
 | p::l,g,d,h=>by
   have h:(bif Nat.beq p.1 g then some p.2.1 else ghost l g)=some d:=h
   cases hb:Nat.beq p.1 g with
   | true=>rw [hb] at h; cases h; have:=Nat.eq_of_beq_eq_true hb; subst this; exact⟨p.2.2,List.mem_cons_self ..⟩
   | false=>rw [hb] at h; obtain⟨w,hw⟩:=ghost_mem h; exact⟨w,List.mem_cons_of_mem _ hw⟩
theorem ghost_ok {g d:Nat} (h:ghost s.gs g=some d) (hk:Ok c T G Γ ρ s):Γ.gd (ig ρ g)=(ρ d).gg:=by
 obtain⟨w,hw⟩:=ghost_mem h
 exact (hk.q.gs (ig ρ g,(ρ d).gg,w) (List.mem_map.2 ⟨(g,d,w),hw,rfl⟩)).2.1
theorem tok_ref {f:TF} (h:TOk c.P c.Φ G Γ f):isRefA f.v=true:=by
 cases f with
 | sl v cc g ns=>rcases h.form with ⟨h,_⟩ | ⟨b,o,cp,h⟩<;>(show isRefA v=true; rw [h]; rfl)
 | pt v cc g=>obtain⟨b,L,h,_⟩:=h; show isRefA v=true; rw [h]; rfl
 | mp v cc g=>obtain⟨b,h,_⟩:=h; show isRefA v=true; rw [h]; rfl
 | el v c j off x=>obtain⟨b,o,l,cap,el,size,C,h,_⟩:=h; show isRefA v=true; rw [h]; rfl
def giS (Φ:Forms) (g cc:Nat):Nat:=bif Φ.dep cc then g else 0
theorem giS_ok {Φ:Forms} {d:Gd} {g cc:Nat} (hv:Φ.via cc=false):gi Φ d (ig ρ g) cc=ig ρ (giS Φ g cc):=by
 unfold gi giS
 rw [hv]
 cases Φ.dep cc<;>rfl
def lkFl:List (Nat × LE × LE)->Nat->LE->Option LE
 | [],_,_=>none
 | p::l,d,j=>bif Nat.beq p.1 d&&p.2.1.same j then some p.2.2 else lkFl l d j
theorem lkFl_ok:∀{l:List (Nat × LE × LE)} {d:Nat} {j e:LE},lkFl l d j=some e->∃j',(d,j',e)∈l/\∀ρ,j'.ev ρ=j.ev ρ
 | [],d,j,e,h=>by cases h
 | p::l,d,j,e,h=>by
   have h:(bif Nat.beq p.1 d&&p.2.1.same j then some p.2.2 else lkFl l d j)=some e:=h
   cases hb:(Nat.beq p.1 d&&p.2.1.same j) with
   | true =>
     rw [hb] at h; cases h
     rw [Bool.and_eq_true] at hb
     have:=Nat.eq_of_beq_eq_true hb.1; subst this
     exact⟨p.2.1,List.mem_cons_self ..,LE.same_ok hb.2⟩
   | false=>rw [hb] at h; obtain⟨j',h1,h2⟩:=lkFl_ok h; exact⟨j',List.mem_cons_of_mem _ h1,h2⟩
def rdS (cf:Cf) (g cc:Nat) (s:SS) (K:Nat->SS->R):R:=bif cf.Φ.via cc then .bad 2 s else fresh s fun x s=>K x (addTy s (.sl x cc (giS cf.Φ g cc)))
def plain (Φ:Forms) (cc x:Nat):Option Nat:=bif Φ.uni cc then none else some x
def rdK (cf:Cf) (g:Nat) (d:Option Nat) (j:LE) (k:K2) (s:SS) (K:SC->Option Nat->SS->R):R:=match k with
 | .int kd=>fresh s fun x s=>K (.int kd (.a (.z x))) none s
 | .nat b=>fresh s fun x s=>K (.int .i64 (.a (.n x))) none (match d with | some d=>addF s (((LE.a (.gn d b)).sub (.a (.n x))).addc (-1)) | none=>s)
 | .str=>fresh s fun x s=>K (.str x) none s
 | .strj=>fresh s fun x s=>K (.str x) none (match d with | some d=>addAt s (d,.str x,j) | none=>s)
 | .strb b=>fresh s fun x s=>K (.str x) none (addF s ((LE.k b).sub (.a (.sl x))))
 | .bool=>fresh s fun x s=>K (.bool (.v x)) none s
 | .flt kd=>fresh s fun x s=>K (.flt kd x) none s
 | .sl cc=>rdS cf g cc s fun x s=>K (.ref x) (plain cf.Φ cc x) s
 | .slb cc b=>rdS cf g cc s fun x s=>K (.ref x) (plain cf.Φ cc x) (addF s ((LE.k b).sub (.a (.len x))))
 | .slg cc b=>rdS cf g cc s fun x s=>K (.ref x) (plain cf.Φ cc x) (match d with | some d=>addF s ((LE.a (.gn d b)).sub (.a (.len x))) | none=>s)
 | .slk cc b=>rdS cf g cc s fun x s=>K (.ref x) (plain cf.Φ cc x) (match d with | some d=>addF (addF s ((LE.a (.gn d b)).sub (.a (.len x)))) ((LE.a (.len x)).sub (.a (.gn d b))) | none=>s)
 | .slf cc=>rdS cf g cc s fun x s=>K (.ref x) (plain cf.Φ cc x) (match d with | some d=>(match lkFl s.fls d j with | some e=>addF (addF s (e.sub (.a (.len x)))) ((LE.a (.len x)).sub e) | none=>addFl s (d,j,.a (.len x))) | none=>s)
 | .ptr cc=>rdP cf g cc s K
 | .ptn cc=>(K .nilp none s).and (rdP cf g cc s K)
 | .mp cc=>rdM cf g cc s K
 | .mpn cc=>(K .nilmap none s).and (rdM cf g cc s K)
 | .bad=>.bad 3 s
 where
 rdP (cf:Cf) (g cc:Nat) (s:SS) (K:SC->Option Nat->SS->R):R:=bif cf.Φ.via cc
  then fresh s fun y s=>fresh (s) fun dv s=>fresh s fun x s=>K (.ref x) none (addG (addTy s (.pt x cc (y+1))) (y+1,dv,false))
  else fresh s fun x s=>K (.ref x) none (addTy s (.pt x cc (giS cf.Φ g cc)))
 rdM (cf:Cf) (g cc:Nat) (s:SS) (K:SC->Option Nat->SS->R):R:=bif cf.Φ.via cc then .bad 2 s else fresh s fun x s=>K (.ref x) none (addTy s (.mp x cc (giS cf.Φ g cc)))
end
end Go.Rd
namespace Go.Rd
open Go.Rex Go.RowKit Go.Rt
def wtO (ρ:Rho):Option Nat->Nat | some y=>(ρ y).ns.sum+(ρ y).ns.length | none=>0
def ltO (n:Nat):Option Nat->Bool | some y=>Nat.blt y n | none=>true
section
variable {c:Cx} {T:Tm} {G:GH} {Γ:Gam} {ρ ρ':Rho} {s s':SS} {cf:Cf}
theorem blt_of {x n:Nat} (h:x<n):Nat.blt x n=true:=Nat.ble_eq_true_of_le h
theorem blt_succ (n:Nat):Nat.blt n (n+1)=true:=blt_of (Nat.lt_succ_self n)
theorem tok_ng {cc:Nat} {v:AV} {g:Nat} (h:TOk c.P c.Φ G Γ (.pt v cc g)) (ht:HT c.P c.Φ G Γ):g<Γ.ng:=by
 obtain⟨b,L,h1,h2,h3⟩:=h
 exact (ht.b _ _ h2).1.1
theorem rdS_ok {g cc:Nat} {K:Nat->SS->R} {v:AV} {ns:List Nat} {d:Gd} (h:(rdS cf g cc s K).Ok) (hΦ:cf.Φ=c.Φ) (hk:Ok c T G Γ ρ s) (hg:igLt s.nx g=true) (ht:TOk c.P c.Φ G Γ (.sl v cc (gi c.Φ d (ig ρ g) cc) ns)) :
  ∃ρ' s',(K s.nx s').Ok/\Agr s.nx ρ ρ'/\s'.nx=s.nx+1/\Ok c T G Γ ρ' s'/\(ρ' s.nx).vv=v/\(ρ' s.nx).ns=ns/\s'.fls=s.fls:=by
 unfold rdS at h
 rw [hΦ] at h
 cases hv:c.Φ.via cc with
 | true=>rw [hv] at h; cases h
 | false =>
   rw [hv] at h
   simp only [rdK,cond_true,cond_false] at h
   obtain⟨h1,h2,h3,h4⟩:=fresh_ok h hk (.v v ns)
   have hr:isRefA v=true:=tok_ref ht
   have e1:(ρ.up s.nx (.v v ns) s.nx).vv=v:=by rw [h4]; exact U.vv_of hr
   have e2:(ρ.up s.nx (.v v ns) s.nx).ns=ns:=by rw [h4]; exact U.ns_of ht.1
   refine⟨_,_,h1,h2,rfl,h3.addTy ?_,e1,e2,rfl⟩
   show TOk c.P c.Φ G Γ (.sl _ cc (ig _ (giS c.Φ g cc)) _)
   have:ig (ρ.up s.nx (.v v ns)) (giS c.Φ g cc)=gi c.Φ d (ig ρ g) cc:=by
    rw [giS_ok hv]
    unfold giS
    cases c.Φ.dep cc with
    | true=>exact ig_agr h2 hg
    | false=>rfl
   rw [e1,e2,this]
   exact ht
def Rd1 (c:Cx) (T:Tm) (G:GH) (Γ:Gam) (s:SS) (ρ:Rho) (v:AV) (w:Nat) (K:SC->Option Nat->SS->R):Prop :=
 Pst c T G Γ s ρ fun ρ' s'=>∃x o,(K x o s').Ok/\x.den ρ'=v/\x.lt s'.nx=true/\wtO ρ' o=w/\ltO s'.nx o=true
theorem plain_wt {Φ:Forms} {cc x:Nat} {v:AV} {g:Nat} {ns:List Nat} (e:(ρ x).ns=ns):wtO ρ (plain Φ cc x)=wgt Φ [.sl v cc g ns]:=by
 unfold plain
 simp only [wgt,sw,List.map_cons,List.map_nil,List.sum_cons,List.sum_nil]
 cases Φ.uni cc with
 | true=>rfl
 | false=>simp [wtO,e]
theorem plain_lt {Φ:Forms} {cc x n:Nat} (h:x<n):ltO n (plain Φ cc x)=true:=by
 unfold plain
 cases Φ.uni cc with
 | true=>rfl
 | false=>exact blt_of h
theorem rdP_ok {g cc:Nat} {K:SC->Option Nat->SS->R} {v:AV} {d:Gd} (h:(rdK.rdP cf g cc s K).Ok) (hΦ:cf.Φ=c.Φ) (hk:Ok c T G Γ ρ s) (hg:igLt s.nx g=true) (ht:TOk c.P c.Φ G Γ (.pt v cc (gi c.Φ d (ig ρ g) cc))):Rd1 c T G Γ s ρ v 0 K:=by
 unfold rdK.rdP at h
 rw [hΦ] at h
 have hr:isRefA v=true:=tok_ref ht
 cases hv:c.Φ.via cc with
 | false =>
   rw [hv] at h
   simp only [rdK,cond_true,cond_false] at h
   obtain⟨h1,h2,h3,h4⟩:=fresh_ok h hk (.v v [])
   have e1:(ρ.up s.nx (.v v []) s.nx).vv=v:=by rw [h4]; exact U.vv_of hr
   refine Pst.mk h2 (by show s.nx<=s.nx+1; omega) (h3.addTy ?_) ⟨_,_,h1,e1,blt_succ _,rfl,rfl⟩
   show TOk c.P c.Φ G Γ (.pt _ cc (ig _ (giS c.Φ g cc)))
   have:ig (ρ.up s.nx (.v v [])) (giS c.Φ g cc)=gi c.Φ d (ig ρ g) cc:=by
    rw [giS_ok hv]
    unfold giS
    cases c.Φ.dep cc with
    | true=>exact ig_agr h2 hg
    | false=>rfl
   rw [e1,this]
   exact ht
 | true =>
   rw [hv] at h
   have egi:gi c.Φ d (ig ρ g) cc=d.sub:=by unfold gi; rw [hv]; rfl
   rw [egi] at ht
   simp only [cond_true,cond_false] at h
   obtain⟨h1,a1,o1,e1⟩:=fresh_ok h hk (.n d.sub)
   obtain⟨h2,a2,o2,e2⟩:=fresh_ok h1 o1 (.g (Γ.gd d.sub))
   obtain⟨h3,a3,o3,e3⟩:=fresh_ok h2 o2 (.v v [])
   have k1:(((ρ.up s.nx (.n d.sub)).up (s.nx+1) (.g (Γ.gd d.sub))).up (s.nx+2) (.v v [])) s.nx=.n d.sub:=by simp [Rho.up]
   have k2:(((ρ.up s.nx (.n d.sub)).up (s.nx+1) (.g (Γ.gd d.sub))).up (s.nx+2) (.v v [])) (s.nx+1)=.g (Γ.gd d.sub):=by simp [Rho.up]
   have k3:(((ρ.up s.nx (.n d.sub)).up (s.nx+1) (.g (Γ.gd d.sub))).up (s.nx+2) (.v v [])) (s.nx+2)=.v v []:=by simp [Rho.up]
   have a:Agr s.nx ρ (((ρ.up s.nx (.n d.sub)).up (s.nx+1) (.g (Γ.gd d.sub))).up (s.nx+2) (.v v [])):=fun i hi=>by
    simp only [Rho.up]; rw [if_neg (by omega),if_neg (by omega),if_neg (by omega)]
   refine Pst.mk a (by show s.nx<=s.nx+1+1+1; omega) ((o3.addTy ?_).addG ⟨?_,?_,fun hf=>by cases hf⟩) ⟨_,_,h3,?_,blt_succ _,rfl,rfl⟩
   · show TOk c.P c.Φ G Γ (.pt ((((ρ.up s.nx (.n d.sub)).up (s.nx+1) (.g (Γ.gd d.sub))).up (s.nx+2) (.v v [])) (s.nx+2)).vv cc ((((ρ.up s.nx (.n d.sub)).up (s.nx+1) (.g (Γ.gd d.sub))).up (s.nx+2) (.v v [])) s.nx).nn)
     rw [k1,k3,U.vv_of hr]
     exact ht
   · show ((((ρ.up s.nx (.n d.sub)).up (s.nx+1) (.g (Γ.gd d.sub))).up (s.nx+2) (.v v [])) s.nx).nn<Γ.ng
     rw [k1]
     exact tok_ng ht hk.q.ht
   · show Γ.gd ((((ρ.up s.nx (.n d.sub)).up (s.nx+1) (.g (Γ.gd d.sub))).up (s.nx+2) (.v v [])) s.nx).nn=((((ρ.up s.nx (.n d.sub)).up (s.nx+1) (.g (Γ.gd d.sub))).up (s.nx+2) (.v v [])) (s.nx+1)).gg
     rw [k1,k2]; rfl
   · show ((((ρ.up s.nx (.n d.sub)).up (s.nx+1) (.g (Γ.gd d.sub))).up (s.nx+2) (.v v [])) (s.nx+2)).vv=v
     rw [k3]; exact U.vv_of hr
theorem rdM_ok {g cc:Nat} {K:SC->Option Nat->SS->R} {v:AV} {d:Gd} (h:(rdK.rdM cf g cc s K).Ok) (hΦ:cf.Φ=c.Φ) (hk:Ok c T G Γ ρ s) (hg:igLt s.nx g=true) (ht:TOk c.P c.Φ G Γ (.mp v cc (gi c.Φ d (ig ρ g) cc))):Rd1 c T G Γ s ρ v 0 K:=by
 unfold rdK.rdM at h
 rw [hΦ] at h
 have hr:isRefA v=true:=tok_ref ht
 cases hv:c.Φ.via cc with
 | false =>
   rw [hv] at h
   simp only [rdK,cond_true,cond_false] at h
   obtain⟨h1,h2,h3,h4⟩:=fresh_ok h hk (.v v [])
   have e1:(ρ.up s.nx (.v v []) s.nx).vv=v:=by rw [h4]; exact U.vv_of hr
   refine Pst.mk h2 (by show s.nx<=s.nx+1; omega) (h3.addTy ?_) ⟨_,_,h1,e1,blt_succ _,rfl,rfl⟩
   show TOk c.P c.Φ G Γ (.mp _ cc (ig _ (giS c.Φ g cc)))
   have:ig (ρ.up s.nx (.v v [])) (giS c.Φ g cc)=gi c.Φ d (ig ρ g) cc:=by
    rw [giS_ok hv]
    unfold giS
    cases c.Φ.dep cc with
    | true=>exact ig_agr h2 hg
    | false=>rfl
   rw [e1,this]
   exact ht
 | true=>rw [hv] at h; cases h
theorem rdK_ok {g J:Nat} {d:Option Nat} {j:LE} {k:K2} {K:SC->Option Nat->SS->R} {v:AV} {fs:List TF} (h:(rdK cf g d j k s K).Ok) (hΦ:cf.Φ=c.Φ) (hk:Ok c T G Γ ρ s) (hg:igLt s.nx g=true)
  (hd:∀dv,d=some dv->dv<s.nx/\Γ.gd (ig ρ g)=(ρ dv).gg) (hj:j.lt s.nx=true/\0<=j.ev ρ/\J=(j.ev ρ).toNat) (hv:Kv c.Φ (Γ.gd (ig ρ g)) (ig ρ g) J k v fs) (hf:∀f∈fs,TOk c.P c.Φ G Γ f):Rd1 c T G Γ s ρ v (wgt c.Φ fs) K:=by
 obtain⟨hj1,hj2,hj3⟩:=hj
 cases k with
 | int kd =>
   obtain⟨⟨z,rfl⟩,rfl⟩:=hv
   simp only [rdK,cond_true,cond_false] at h
   obtain⟨h1,h2,h3,h4⟩:=fresh_ok h hk (.z z)
   exact Pst.mk h2 (Nat.le_succ _) h3 ⟨_,_,h1,by simp only [SC.den,LE.ev_a,Rd.At.ev]; rw [h4]; rfl,by simp [SC.lt,LE.lt,LE.a,bump,At.id,blt_succ],rfl,rfl⟩
 | nat b =>
   obtain⟨⟨n,rfl,hlt⟩,rfl⟩:=hv
   simp only [rdK,cond_true,cond_false] at h
   obtain⟨h1,h2,h3,h4⟩:=fresh_ok h hk (.n n)
   have hev:(LE.a (.n s.nx)).ev (ρ.up s.nx (.n n))=n:=by rw [LE.ev_a]; show ((ρ.up s.nx (.n n) s.nx).nn:Int)=n; rw [h4]; rfl
   have hden:SC.den (ρ.up s.nx (.n n)) (.int .i64 (.a (.n s.nx)))=.int .i64 (.ofNat n):=by simp only [SC.den,hev]; rfl
   cases d with
   | none=>exact Pst.mk h2 (Nat.le_succ _) h3 ⟨_,_,h1,hden,by simp [SC.lt,LE.lt,LE.a,bump,At.id,blt_succ],rfl,rfl⟩
   | some dv =>
     obtain⟨d1,d2⟩:=hd dv rfl
     refine Pst.mk h2 (Nat.le_succ _) (h3.addF ?_) ⟨_,_,h1,hden,by simp [SC.lt,LE.lt,LE.a,bump,addF,At.id,blt_succ],rfl,rfl⟩
     rw [LE.ev_addc,LE.ev_sub,hev,LE.ev_a]
     show 0<=(((ρ.up s.nx (.n n) dv).gg.n b:Nat):Int)-n+-1
     rw [h2 dv d1,<-d2]; omega
 | str =>
   obtain⟨⟨l,n,rfl,hlim⟩,rfl⟩:=hv
   simp only [rdK,cond_true,cond_false] at h
   obtain⟨h1,h2,h3,h4⟩:=fresh_ok h hk (.s l n)
   exact Pst.mk h2 (Nat.le_succ _) h3 ⟨_,_,h1,by simp only [SC.den]; rw [h4,U.sl_of hlim]; rfl,by simp [SC.lt,bump,blt_succ],rfl,rfl⟩
 | strb b =>
   obtain⟨⟨l,n,rfl,hlim,hlb⟩,rfl⟩:=hv
   simp only [rdK,cond_true,cond_false] at h
   obtain⟨h1,h2,h3,h4⟩:=fresh_ok h hk (.s l n)
   refine Pst.mk h2 (Nat.le_succ _) (h3.addF ?_) ⟨_,_,h1,by simp only [SC.den]; rw [h4,U.sl_of hlim]; rfl,by simp [SC.lt,bump,addF,blt_succ],rfl,rfl⟩
   rw [LE.ev_sub,LE.ev_k,LE.ev_a]
   show 0<=(b:Int)-(((ρ.up s.nx (.s l n)) s.nx).sl:Int)
   rw [h4,U.sl_of hlim]
   omega
 | strj =>
   obtain⟨⟨l,n,rfl,hlim,hat⟩,rfl⟩:=hv
   simp only [rdK,cond_true,cond_false] at h
   obtain⟨h1,h2,h3,h4⟩:=fresh_ok h hk (.s l n)
   have hden:SC.den (ρ.up s.nx (.s l n)) (.str s.nx)=.str l n:=by simp only [SC.den]; rw [h4,U.sl_of hlim]; rfl
   cases d with
   | none=>exact Pst.mk h2 (Nat.le_succ _) h3 ⟨_,_,h1,hden,by simp [SC.lt,bump,blt_succ],rfl,rfl⟩
   | some dv =>
     obtain⟨d1,d2⟩:=hd dv rfl
     refine Pst.mk h2 (Nat.le_succ _) (h3.addAt ?_) ⟨_,_,h1,hden,by simp [SC.lt,bump,addAt,blt_succ],rfl,rfl⟩
     refine .inl ?_
     show 0<=j.ev _/\atV (ρ.up s.nx (.s l n) dv).gg (SC.den (ρ.up s.nx (.s l n)) (.str s.nx))=some (j.ev _).toNat
     rw [LE.agr h2 hj1,h2 dv d1,<-d2,hden]
     exact⟨hj2,by rw [<-hj3]; exact hat⟩
 | bool =>
   obtain⟨⟨b,rfl⟩,rfl⟩:=hv
   simp only [rdK,cond_true,cond_false] at h
   obtain⟨h1,h2,h3,h4⟩:=fresh_ok h hk (.b b)
   exact Pst.mk h2 (Nat.le_succ _) h3 ⟨_,_,h1,by simp only [SC.den,BE.ev]; rw [h4]; rfl,by simp [SC.lt,BE.lt,bump,blt_succ],rfl,rfl⟩
 | flt kd =>
   obtain⟨⟨b,rfl⟩,rfl⟩:=hv
   simp only [rdK,cond_true,cond_false] at h
   obtain⟨h1,h2,h3,h4⟩:=fresh_ok h hk (.n b)
   exact Pst.mk h2 (Nat.le_succ _) h3 ⟨_,_,h1,by simp only [SC.den]; rw [h4]; rfl,by simp [SC.lt,bump,blt_succ],rfl,rfl⟩
 | sl cc =>
   obtain⟨ns,rfl⟩:=hv
   simp only [rdK] at h
   obtain⟨ρ1,s1,h1,h2,h3,h4,h5,h6,_⟩:=rdS_ok h hΦ hk hg (hf _ (List.mem_singleton_self _))
   rw [hΦ] at h1
   exact Pst.mk h2 (by omega) h4 ⟨_,_,h1,h5,by simp only [SC.lt]; exact blt_of (by omega),plain_wt h6,plain_lt (by omega)⟩
 | slb cc b =>
   obtain⟨ns,rfl,hle⟩:=hv
   simp only [rdK] at h
   obtain⟨ρ1,s1,h1,h2,h3,h4,h5,h6,_⟩:=rdS_ok h hΦ hk hg (hf _ (List.mem_singleton_self _))
   rw [hΦ] at h1
   refine Pst.mk h2 (by show s.nx<=s1.nx; omega) (h4.addF ?_) ⟨_,_,h1,h5,by simp only [SC.lt]; exact blt_of (by show s.nx<s1.nx; omega),plain_wt h6,plain_lt (by show s.nx<s1.nx; omega)⟩
   rw [LE.ev_sub,LE.ev_k,LE.ev_a]
   show 0<=(b:Int)-((ρ1 s.nx).ns.length:Int)
   rw [h6]; omega
 | slg cc b =>
   obtain⟨ns,rfl,hle⟩:=hv
   simp only [rdK] at h
   obtain⟨ρ1,s1,h1,h2,h3,h4,h5,h6,_⟩:=rdS_ok h hΦ hk hg (hf _ (List.mem_singleton_self _))
   rw [hΦ] at h1
   cases d with
   | none=>exact Pst.mk h2 (by omega) h4 ⟨_,_,h1,h5,by simp only [SC.lt]; exact blt_of (by omega),plain_wt h6,plain_lt (by omega)⟩
   | some dv =>
     obtain⟨d1,d2⟩:=hd dv rfl
     refine Pst.mk h2 (by show s.nx<=s1.nx; omega) (h4.addF ?_) ⟨_,_,h1,h5,by simp only [SC.lt]; exact blt_of (by show s.nx<s1.nx; omega),plain_wt h6,plain_lt (by show s.nx<s1.nx; omega)⟩
     rw [LE.ev_sub,LE.ev_a,LE.ev_a]
     show 0<=(((ρ1 dv).gg.n b:Nat):Int)-((ρ1 s.nx).ns.length:Int)
     rw [h6,h2 dv d1,<-d2]; omega
 | slk cc b =>
   obtain⟨ns,rfl,hz,hle⟩:=hv
   simp only [rdK] at h
   obtain⟨ρ1,s1,h1,h2,h3,h4,h5,h6,_⟩:=rdS_ok h hΦ hk hg (hf _ (List.mem_singleton_self _))
   rw [hΦ] at h1
   cases d with
   | none=>exact Pst.mk h2 (by omega) h4 ⟨_,_,h1,h5,by simp only [SC.lt]; exact blt_of (by omega),plain_wt h6,plain_lt (by omega)⟩
   | some dv =>
     obtain⟨d1,d2⟩:=hd dv rfl
     refine Pst.mk h2 (by show s.nx<=s1.nx; omega) ((h4.addF ?_).addF ?_) ⟨_,_,h1,h5,by simp only [SC.lt]; exact blt_of (by show s.nx<s1.nx; omega),plain_wt h6,plain_lt (by show s.nx<s1.nx; omega)⟩
     · rw [LE.ev_sub,LE.ev_a,LE.ev_a]
       show 0<=(((ρ1 dv).gg.n b:Nat):Int)-((ρ1 s.nx).ns.length:Int)
       rw [h6,h2 dv d1,<-d2]; omega
     · rw [LE.ev_sub,LE.ev_a,LE.ev_a]
       show 0<=((ρ1 s.nx).ns.length:Int)-(((ρ1 dv).gg.n b:Nat):Int)
       rw [h6,h2 dv d1,<-d2]; omega
 | slf cc =>
   obtain⟨ns,rfl,hz,hle⟩:=hv
   simp only [rdK] at h
   obtain⟨ρ1,s1,h1,h2,h3,h4,h5,h6,h7⟩:=rdS_ok h hΦ hk hg (hf _ (List.mem_singleton_self _))
   rw [hΦ] at h1
   cases d with
   | none=>exact Pst.mk h2 (by omega) h4 ⟨_,_,h1,h5,by simp only [SC.lt]; exact blt_of (by omega),plain_wt h6,plain_lt (by omega)⟩
   | some dv =>
     obtain⟨d1,d2⟩:=hd dv rfl
     have hlen:(LE.a (.len s.nx)).ev ρ1=(ns.length:Int):=by rw [LE.ev_a]; show (((ρ1 s.nx).ns.length:Nat):Int)=_; rw [h6]
     simp only at h1
     cases hl:lkFl s1.fls dv j with
     | none =>
       rw [hl] at h1
       refine Pst.mk h2 (by show s.nx<=s1.nx; omega) (h4.addFl ?_) ⟨_,_,h1,h5,by simp only [SC.lt]; exact blt_of (by show s.nx<s1.nx; omega),plain_wt h6,plain_lt (by show s.nx<s1.nx; omega)⟩
       show 0<=j.ev ρ1/\(ρ1 dv).gg.fz=true/\(((ρ1 dv).gg.fl (j.ev ρ1).toNat:Nat):Int)=(LE.a (.len s.nx)).ev ρ1
       rw [LE.agr h2 hj1,h2 dv d1,<-d2,hlen,<-hj3,hle]
       exact⟨hj2,hz,rfl⟩
     | some e =>
       rw [hl] at h1
       obtain⟨j',m1,m2⟩:=lkFl_ok hl
       obtain⟨_,_,k3⟩:=h4.sat.fls _ m1
       have k3:(((ρ1 dv).gg.fl (j'.ev ρ1).toNat:Nat):Int)=e.ev ρ1:=k3
       rw [m2 ρ1,LE.agr h2 hj1,<-hj3,h2 dv d1,<-d2,<-hle] at k3
       refine Pst.mk h2 (by show s.nx<=s1.nx; omega) ((h4.addF ?_).addF ?_) ⟨_,_,h1,h5,by simp only [SC.lt]; exact blt_of (by show s.nx<s1.nx; omega),plain_wt h6,plain_lt (by show s.nx<s1.nx; omega)⟩
       · rw [LE.ev_sub,hlen]; omega
       · rw [LE.ev_sub,hlen]; omega
 | ptr cc=>cases hv; exact rdP_ok h hΦ hk hg (hf _ (List.mem_singleton_self _))
 | ptn cc =>
   obtain⟨h1,h2⟩:=R.and_ok h
   rcases hv with ⟨rfl,rfl⟩ | rfl
   · exact Pst.here hk ⟨_,_,h1,rfl,rfl,rfl,rfl⟩
   · exact rdP_ok h2 hΦ hk hg (hf _ (List.mem_singleton_self _))
 | mp cc=>cases hv; exact rdM_ok h hΦ hk hg (hf _ (List.mem_singleton_self _))
 | mpn cc =>
   obtain⟨h1,h2⟩:=R.and_ok h
   rcases hv with ⟨rfl,rfl⟩ | rfl
   · exact Pst.here hk ⟨_,_,h1,rfl,rfl,rfl,rfl⟩
   · exact rdM_ok h2 hΦ hk hg (hf _ (List.mem_singleton_self _))
 | bad=>exact hv.elim
def patK (cf:Cf) (g:Nat) (d:Option Nat) (j:LE):List K2->(List SC->List Nat->SS->R)->SS->R
 | [],K,s=>K [] [] s
 | k::ks,K,s=>rdK cf g d j k s fun x o s=>patK cf g d j ks (fun xs os s=>K (x::xs) (o.toList++os) s) s
def sumW:List Nat->LE
 | []=>.k 0
 | x::xs=>(sumW xs).add (.a (.wt x))
theorem sumW_ev:∀xs,((sumW xs).ev ρ:Int)=((xs.map fun x=>(ρ x).ns.sum+(ρ x).ns.length).sum:Nat)
 | []=>by rw [sumW,LE.ev_k]; rfl
 | x::xs=>by
   rw [sumW,LE.ev_add,LE.ev_a,sumW_ev xs,List.map_cons,List.sum_cons]
   show _+(((ρ x).ns.sum+(ρ x).ns.length:Nat):Int)=_
   omega
theorem gd_agr {g dv:Nat} (h:Agr s.nx ρ ρ') (hg:igLt s.nx g=true) (hd:dv<s.nx/\Γ.gd (ig ρ g)=(ρ dv).gg) {n:Nat} (hn:s.nx<=n):dv<n/\Γ.gd (ig ρ' g)=(ρ' dv).gg:=by
 rw [ig_agr h hg,h dv hd.1]; exact⟨by omega,hd.2⟩
theorem igLt_mono {n n' g:Nat} (h:igLt n g=true) (hn:n<=n'):igLt n' g=true:=Nat.ble_eq_true_of_le (Nat.le_trans (ble_ok h) hn)
theorem LE.lt_mono {n n':Nat} {e:LE} (h:e.lt n=true) (hn:n<=n'):e.lt n'=true:=by
 unfold LE.lt at h ⊢
 rw [List.all_eq_true] at h ⊢
 exact fun p hp=>blt_of (by have:=blt_ok (h p hp); omega)
theorem ltO_mem {n:Nat} {o:Option Nat} (h:ltO n o=true):∀x∈o.toList,x<n:=by
 cases o with
 | none=>intro x hx; cases hx
 | some y=>intro x hx; rw [List.mem_singleton.1 hx]; exact blt_ok h
theorem patK_ok {g J:Nat} {d:Option Nat} {j:LE} (hΦ:cf.Φ=c.Φ):∀{ks:List K2} {s:SS} {ρ:Rho} {K:List SC->List Nat->SS->R} {cs:List AV} {fs:List TF},(patK cf g d j ks K s).Ok->Ok c T G Γ ρ s->igLt s.nx g=true ->
  (∀dv,d=some dv->dv<s.nx/\Γ.gd (ig ρ g)=(ρ dv).gg)->(j.lt s.nx=true/\0<=j.ev ρ/\J=(j.ev ρ).toNat)->WtS c.Φ (Γ.gd (ig ρ g)) (ig ρ g) J ks cs fs->(∀f∈fs,TOk c.P c.Φ G Γ f) ->
  Pst c T G Γ s ρ fun ρ' s'=>∃xs os,(K xs os s').Ok/\denL ρ' xs=cs/\(∀y∈os,y<s'.nx)/\((os.map fun x=>(ρ' x).ns.sum+(ρ' x).ns.length).sum=wgt c.Φ fs)
 | [],s,ρ,K,cs,fs,h,hk,hg,hd,hj,⟨h1,h2⟩,hf=>by
   subst h1 h2
   exact Pst.here hk ⟨[],[],h,rfl,(fun y hy=>by cases hy),rfl⟩
 | k::ks,s,ρ,K,_,_,h,hk,hg,hd,hj,⟨v,cs',f,fs',h1,h2,h3,h4⟩,hf=>by
   subst h1 h2
   refine (rdK_ok h hΦ hk hg hd hj h3 fun x hx=>hf x (List.mem_append_left _ hx)).bind fun ρ1 s1 a1 n1 o1 ⟨x,o,g1,g2,g3,g4,g5⟩=>?_
   refine (patK_ok hΦ (J:=J) g1 o1 (igLt_mono hg n1) (fun dv he=>gd_agr a1 hg (hd dv he) n1) ⟨LE.lt_mono hj.1 n1,by rw [LE.agr a1 hj.1]; exact hj.2⟩ (by rw [ig_agr a1 hg]; exact h4) fun x hx=>hf x (List.mem_append_right _ hx)).mono fun ρ2 s2 a2 n2 o2 hh=>?_
   obtain⟨xs,os,k1,k2,k3,k4⟩:=hh
   refine⟨_,_,k1,?_,fun y hy=>?_,?_⟩
   · show x.den ρ2::denL ρ2 xs=_
     rw [SC.agr a2 g3,g2,k2]
   · rcases List.mem_append.1 hy with hy | hy
     · have:=ltO_mem g5 y hy; omega
     · exact k3 y hy
   · rw [List.map_append,List.sum_append,k4,wgt_append,<-g4]
     congr 1
     cases o with
     | none=>rfl
     | some y =>
       have:=blt_ok g5
       simp only [Option.toList,List.map_cons,List.map_nil,List.sum_cons,List.sum_nil,wtO,Nat.add_zero]
       rw [a2 y this]
end
end Go.Rd
namespace Go.Rd
open Go.Rex Go.RowKit Go.Rt
def sc (x:SC):SV:=.v false [x]
def fSl:List STF->Nat->Option (Nat × Nat)
 | [],_=>none
 | .sl y c g::l,x=>bif Nat.beq y x then some (c,g) else fSl l x
 | _::l,x=>fSl l x
def fPt:List STF->Nat->Option (Nat × Nat)
 | [],_=>none
 | .pt y c g::l,x=>bif Nat.beq y x then some (c,g) else fPt l x
 | _::l,x=>fPt l x
def fMp:List STF->Nat->Option (Nat × Nat)
 | [],_=>none
 | .mp y c g::l,x=>bif Nat.beq y x then some (c,g) else fMp l x
 | _::l,x=>fMp l x
theorem fSl_mem:∀{l:List STF} {x c g:Nat},fSl l x=some (c,g)->STF.sl x c g∈l
 | [],_,_,_,h=>by cases h
 | .sl y c' g'::l,x,c,g,h=>by
   have h:(bif Nat.beq y x then some (c',g') else fSl l x)=some (c,g):=h
   cases hb:Nat.beq y x with
   | true=>rw [hb] at h; cases h; have:=Nat.eq_of_beq_eq_true hb; subst this; exact List.mem_cons_self ..
   | false=>rw [hb] at h; exact List.mem_cons_of_mem _ (fSl_mem h)
 | .pt y c' g'::l,x,c,g,h=>List.mem_cons_of_mem _ (fSl_mem (l:=l) h)
 | .mp y c' g'::l,x,c,g,h=>List.mem_cons_of_mem _ (fSl_mem (l:=l) h)
 | .el _ _ _ _ _::l,x,c,g,h=>List.mem_cons_of_mem _ (fSl_mem (l:=l) h)
theorem fPt_mem:∀{l:List STF} {x c g:Nat},fPt l x=some (c,g)->STF.pt x c g∈l
 | [],_,_,_,h=>by cases h
 | .pt y c' g'::l,x,c,g,h=>by
   have h:(bif Nat.beq y x then some (c',g') else fPt l x)=some (c,g):=h
   cases hb:Nat.beq y x with
   | true=>rw [hb] at h; cases h; have:=Nat.eq_of_beq_eq_true hb; subst this; exact List.mem_cons_self ..
   | false=>rw [hb] at h; exact List.mem_cons_of_mem _ (fPt_mem h)
 | .sl y c' g'::l,x,c,g,h=>List.mem_cons_of_mem _ (fPt_mem (l:=l) h)
 | .mp y c' g'::l,x,c,g,h=>List.mem_cons_of_mem _ (fPt_mem (l:=l) h)
 | .el _ _ _ _ _::l,x,c,g,h=>List.mem_cons_of_mem _ (fPt_mem (l:=l) h)
theorem fMp_mem:∀{l:List STF} {x c g:Nat},fMp l x=some (c,g)->STF.mp x c g∈l
 | [],_,_,_,h=>by cases h
 | .mp y c' g'::l,x,c,g,h=>by
   have h:(bif Nat.beq y x then some (c',g') else fMp l x)=some (c,g):=h
   cases hb:Nat.beq y x with
   | true=>rw [hb] at h; cases h; have:=Nat.eq_of_beq_eq_true hb; subst this; exact List.mem_cons_self ..
   | false=>rw [hb] at h; exact List.mem_cons_of_mem _ (fMp_mem h)
 | .sl y c' g'::l,x,c,g,h=>List.mem_cons_of_mem _ (fMp_mem (l:=l) h)
 | .pt y c' g'::l,x,c,g,h=>List.mem_cons_of_mem _ (fMp_mem (l:=l) h)
 | .el _ _ _ _ _::l,x,c,g,h=>List.mem_cons_of_mem _ (fMp_mem (l:=l) h)
def locAt:List SO->Nat->Option (TypeId × List SC)
 | [],_=>none
 | .loc b el cs::l,x=>bif Nat.beq b x then some (el,cs) else locAt l x
 | _::l,x=>locAt l x
theorem locAt_mem:∀{l:List SO} {x:Nat} {el:TypeId} {cs:List SC},locAt l x=some (el,cs)->SO.loc x el cs∈l
 | [],_,_,_,h=>by cases h
 | .loc b el' cs'::l,x,el,cs,h=>by
   have h:(bif Nat.beq b x then some (el',cs') else locAt l x)=some (el,cs):=h
   cases hb:Nat.beq b x with
   | true=>rw [hb] at h; cases h; have:=Nat.eq_of_beq_eq_true hb; subst this; exact List.mem_cons_self ..
   | false=>rw [hb] at h; exact List.mem_cons_of_mem _ (locAt_mem h)
 | .lst y c'::l,x,el,cs,h=>List.mem_cons_of_mem _ (locAt_mem (l:=l) h)
 | .em y c'::l,x,el,cs,h=>List.mem_cons_of_mem _ (locAt_mem (l:=l) h)
 | .ul y c' _::l,x,el,cs,h=>List.mem_cons_of_mem _ (locAt_mem (l:=l) h)
 | .am y c' _::l,x,el,cs,h=>List.mem_cons_of_mem _ (locAt_mem (l:=l) h)
 | .im y c'::l,x,el,cs,h=>List.mem_cons_of_mem _ (locAt_mem (l:=l) h)
 | .bl y c' g'::l,x,el,cs,h=>List.mem_cons_of_mem _ (locAt_mem (l:=l) h)
section
variable {c:Cx} {T:Tm} {G:GH} {Γ:Gam} {ρ ρ':Rho} {s s':SS} {cf:Cf} {ops:Array Oper} {i:Nat}
theorem Ok.ty {f:STF} (h:Ok c T G Γ ρ s) (hf:f∈s.ty):TOk c.P c.Φ G Γ (f.den ρ):=h.q.ty _ (List.mem_map.2 ⟨f,hf,rfl⟩)
theorem Ok.own {o:SO} (h:Ok c T G Γ ρ s) (ho:o∈s.os):OwnOk c.P c.Φ G Γ (o.den ρ):=h.q.own _ (List.mem_map.2 ⟨o,ho,rfl⟩)
theorem Ok.loc {b:Nat} {el:TypeId} {cs:List SC} (h:Ok c T G Γ ρ s) (hl:locAt s.os b=some (el,cs)):G (ρ b).nn=some (.cells .loc el cs.length (denL ρ cs)):=by
 have:=(h.own (locAt_mem hl)).1
 rwa [show (denL ρ cs).length=cs.length by simp [denL]] at this
def Lo (c:Cx) (T:Tm) (G:GH) (Γ:Gam) (ops:Array Oper) (i:Nat) (s:SS) (ρ:Rho) (K:SV->SS->R):Prop :=
 Pst c T G Γ s ρ fun ρ' s'=>∃v,(K v s').Ok/\LVG c.P ops c.n0 c.nt i T .e (z 0) G (v.den ρ')
theorem Lo.here {K:SV->SS->R} {v:SV} (hk:Ok c T G Γ ρ s) (h:(K v s).Ok) (hl:LVG c.P ops c.n0 c.nt i T .e (z 0) G (v.den ρ)):Lo c T G Γ ops i s ρ K:=Pst.here hk ⟨v,h,hl⟩
theorem Lo.fr {K:SV->SS->R} {u:U} {v:SV} (hk:Ok c T G Γ (ρ.up s.nx u) (bump s)) (h:(K v (bump s)).Ok) (hl:LVG c.P ops c.n0 c.nt i T .e (z 0) G (v.den (ρ.up s.nx u))):Lo c T G Γ ops i s ρ K:=Pst.mk (agr_up _ _ _) (Nat.le_succ _) hk ⟨v,h,hl⟩
theorem Lo.to {K:SV->SS->R} (hn:s'.nx=s.nx) (h:Lo c T G Γ ops i s' ρ K):Lo c T G Γ ops i s ρ K:=by
 obtain⟨ρ',s2,a,n,o,h⟩:=h
 exact⟨ρ',s2,by rw [<-hn]; exact a,by omega,o,h⟩
def isI64 (k:IntKind):Bool:=kindB k .i64
theorem isI64_ok {k:IntKind} (h:isI64 k=true):k=.i64:=of_decide_eq_true h
def fitI (s:SS) (e:LE):Bool:=ent s (e.addc 9223372036854775808)&&ent s ((LE.k 9223372036854775807).sub e)
theorem fitI_ok {e:LE} (h:fitI s e=true) (hs:Sat ρ s):IntKind.i64.wrap (e.ev ρ)=e.ev ρ:=by
 unfold fitI at h
 rw [Bool.and_eq_true] at h
 have h1:=ent_ok h.1 hs
 have h2:=ent_ok h.2 hs
 rw [LE.ev_addc] at h1
 rw [LE.ev_sub,LE.ev_k] at h2
 rw [IntKind.wrap_i64]
 omega
def wrS (s:SS) (k:IntKind) (e:Option LE) (K:SV->SS->R):R:=match e with
 | some e=>bif isI64 k&&fitI s e then K (sc (.int k e)) s else fresh s fun x s=>K (sc (.int k (.a (.z x)))) s
 | none=>fresh s fun x s=>K (sc (.int k (.a (.z x)))) s
theorem den_z (ρ:Rho) (k:IntKind) (x:Nat) (z:Int) (h:ρ x=.z z):(sc (.int k (.a (.z x)))).den ρ=.int k z:=by
 show AV.int k ((LE.a (.z x)).ev ρ)=_
 rw [LE.ev_a]; show AV.int k (ρ x).zz=_; rw [h]; rfl
theorem wrS_fr {k:IntKind} {K:SV->SS->R} {r:Int} (h:(fresh s (fun x s=>K (sc (.int k (.a (.z x)))) s)).Ok) (hk:Ok c T G Γ ρ s) (hl:LVG c.P ops c.n0 c.nt i T .e (z 0) G (.int k r)):Lo c T G Γ ops i s ρ K:=by
 obtain⟨h1,h2,h3,h4⟩:=fresh_ok h hk (.z r)
 exact Lo.fr h3 h1 (by rw [den_z _ _ _ r h4]; exact hl)
theorem wrS_ok {k:IntKind} {e:Option LE} {K:SV->SS->R} {r:Int} (h:(wrS s k e K).Ok) (hk:Ok c T G Γ ρ s) (he:∀e',e=some e'->r=k.wrap (e'.ev ρ)) (hl:LVG c.P ops c.n0 c.nt i T .e (z 0) G (.int k r)):Lo c T G Γ ops i s ρ K:=by
 cases e with
 | none=>exact wrS_fr h hk hl
 | some e =>
   have h:((bif isI64 k&&fitI s e then K (sc (.int k e)) s else fresh s fun x s=>K (sc (.int k (.a (.z x)))) s)).Ok:=h
   cases hb:(isI64 k&&fitI s e) with
   | false=>rw [hb] at h; exact wrS_fr h hk hl
   | true =>
     rw [hb] at h
     rw [Bool.and_eq_true] at hb
     have:=isI64_ok hb.1
     subst this
     have hr:=he e rfl
     rw [fitI_ok hb.2 hk.sat] at hr
     subst hr
     exact Lo.here hk h hl
def constI (e:LE):Option Int:=bif e.ts.isEmpty then some e.c else none
theorem constI_ok {e:LE} {k:Int} (h:constI e=some k) (ρ:Rho):e.ev ρ=k:=by
 unfold constI at h
 cases hb:e.ts.isEmpty with
 | false=>rw [hb] at h; cases h
 | true=>rw [hb] at h; cases h; have:=List.isEmpty_iff.1 hb; unfold LE.ev; rw [this]; simp [evT]
def arL (op:BinOp) (a b:LE):Option LE:=match op with
 | .add=>some (a.add b)
 | .sub=>some (a.sub b)
 | .mul=>match constI a with | some k=>some (b.mulc k) | none=>(match constI b with | some k=>some (a.mulc k) | none=>none)
 | _=>none
theorem arL_ok {op:BinOp} {a b e:LE} (h:arL op a b=some e) (ρ:Rho):e.ev ρ=arI op (a.ev ρ) (b.ev ρ):=by
 cases op<;>first | (cases h; done) | skip
 · cases h; exact LE.ev_add ρ a b
 · cases h; exact LE.ev_sub ρ a b
 · have h:(match constI a with | some k=>some (b.mulc k) | none=>(match constI b with | some k=>some (a.mulc k) | none=>none))=some e:=h
   cases ha:constI a with
   | some k=>rw [ha] at h; cases h; rw [LE.ev_mulc,constI_ok ha ρ]; rfl
   | none =>
     rw [ha] at h
     cases hb:constI b with
     | some k=>rw [hb] at h; cases h; rw [LE.ev_mulc,constI_ok hb ρ]; exact Int.mul_comm _ _
     | none=>rw [hb] at h; cases h
def relS (op:BinOp) (a b:LE):BE:=match op with
 | .lss=>.ge ((b.sub a).addc (-1))
 | .leq=>.ge (b.sub a)
 | .gtr=>.ge ((a.sub b).addc (-1))
 | .geq=>.ge (a.sub b)
 | .eql=>.eq (a.sub b)
 | _=>.ne (a.sub b)
theorem relS_ok {op:BinOp} (hr:isRel op=true) (a b:LE) (ρ:Rho):(relS op a b).ev ρ=relI op (a.ev ρ) (b.ev ρ):=by
 cases op<;>first | (cases hr; done) | skip
 all_goals simp only [relS,BE.ev,relI,LE.ev_addc,LE.ev_sub]
 all_goals first
  | (rw [Bool.eq_iff_iff,decide_eq_true_eq,decide_eq_true_eq]; omega)
  | (rw [Bool.eq_iff_iff]; simp only [Bool.not_eq_true',decide_eq_true_eq,decide_eq_false_iff_not]; omega)
def beS (s:SS) (b:BE):BE:=match b with
 | .ge e=>(match constI e with | some k=>.k (!negI k) | none=>b)
 | .eq e=>(match constI e with | some k=>.k (zerI k) | none=>b)
 | .ne e=>(match constI e with | some k=>.k (!zerI k) | none=>b)
 | b=>b
theorem beS_ok (b:BE) (ρ:Rho):(beS s b).ev ρ=b.ev ρ:=by
 cases b with
 | ge e =>
   show ((match constI e with | some k=>BE.k (!negI k) | none=>.ge e)).ev ρ=_
   cases h:constI e with
   | none=>rfl
   | some k =>
     simp only [BE.ev,constI_ok h ρ]
     cases hn:negI k with
     | true=>have:=negI_t hn; symm; exact decide_eq_false (by omega)
     | false=>have:=negI_f hn; symm; exact decide_eq_true (by omega)
 | eq e =>
   show ((match constI e with | some k=>BE.k (zerI k) | none=>.eq e)).ev ρ=_
   cases h:constI e with
   | none=>rfl
   | some k =>
     simp only [BE.ev,constI_ok h ρ]
     cases hn:zerI k with
     | true=>have:=zerI_t hn; symm; exact decide_eq_true this
     | false=>have:=zerI_f hn; symm; exact decide_eq_false this
 | ne e =>
   show ((match constI e with | some k=>BE.k (!zerI k) | none=>.ne e)).ev ρ=_
   cases h:constI e with
   | none=>rfl
   | some k =>
     simp only [BE.ev,constI_ok h ρ]
     cases hn:zerI k with
     | true=>have:=zerI_t hn; rw [decide_eq_true this]
     | false=>have:=zerI_f hn; rw [decide_eq_false this]
 | _=>rfl
def strOf:SC->Option (Option (Nat × Nat))
 | .str _=>some none
 | .strc l m=>bif Nat.ble l SLIM then some (some (l,m)) else none
 | _=>none
theorem strOf_den {x:SC} {q:Option (Nat × Nat)} (h:strOf x=some q) (ρ:Rho):∃l m,x.den ρ=.str l m/\∀p,q=some p->p=(l,m):=by
 cases x<;>first | (cases h; done) | skip
 · cases h; exact⟨_,_,rfl,fun p hp=>(by cases hp)⟩
 · rename_i l m
   have h:(bif Nat.ble l SLIM then some (some (l,m)) else none)=some q:=h
   cases hb:Nat.ble l SLIM with
   | false=>rw [hb] at h; cases h
   | true=>rw [hb] at h; cases h; exact⟨_,_,rfl,fun p hp=>(Option.some.inj hp).symm⟩
theorem strOf_lim {x:SC} (h:(strOf x).isSome=true) {ρ:Rho} {l m:Nat} (e:x.den ρ=.str l m):l<=SLIM:=by
 cases x<;>first | (cases h; done) | skip
 · cases e; exact U.sl_lim _
 · cases e
   have h:(bif Nat.ble l SLIM then some (some (l,m)) else none).isSome=true:=h
   cases hb:Nat.ble l SLIM with
   | false=>rw [hb] at h; cases h
   | true=>exact ble_ok hb
def nilB (s:SS) (x:SC) (K:BE->SS->R):R:=match x with
 | .nils=>K (.k true) s | .nilp=>K (.k true) s | .nilmap=>K (.k true) s
 | .rpt _ _=>K (.k false) s
 | .ref y=>(match fPt s.ty y with
   | some _=>K (.k false) s
   | none=>match fMp s.ty y with
     | some _=>K (.k false) s
     | none=>match fSl s.ty y with
       | some _=>fresh s fun b s=>K (.v b) s
       | none=>.bad 20 s)
 | _=>.bad 21 s
def nilDesc:TypeDesc->SC->Bool
 | .slice _,.nils=>true
 | .pointer _,.nilp=>true
 | .map _ _,.nilmap=>true
 | _,_=>false
def formDesc (s:SS):TypeDesc->SC->Bool
 | .slice _,.nils=>true
 | .slice _,.ref y=>(fSl s.ty y).isSome
 | .pointer _,.nilp=>true
 | .pointer _,.rpt _ _=>true
 | .pointer _,.ref y=>(fPt s.ty y).isSome
 | .map _ _,.nilmap=>true
 | .map _ _,.ref y=>(fMp s.ty y).isSome
 | _,_=>false
theorem slFrm {y cc g:Nat} (hk:Ok c T G Γ ρ s) (h:fSl s.ty y=some (cc,g)):Frm (ρ y).vv:=by
 rcases (hk.ty (fSl_mem h)).form with ⟨h,_⟩ | ⟨b,o,cp,h⟩
 · exact .inl h
 · exact .inr ⟨b,o,_,cp,h⟩
theorem ptFrm {y cc g:Nat} (hk:Ok c T G Γ ρ s) (h:fPt s.ty y=some (cc,g)):∃b,(ρ y).vv=.rpt b 0:=by
 obtain⟨b,L,h1,_⟩:=hk.ty (fPt_mem h)
 exact⟨b,h1⟩
theorem mpFrm {y cc g:Nat} (hk:Ok c T G Γ ρ s) (h:fMp s.ty y=some (cc,g)):∃b,(ρ y).vv=.rmp b:=by
 obtain⟨b,h1,_⟩:=hk.ty (fMp_mem h)
 exact⟨b,h1⟩
theorem formDesc_ok {dd:TypeDesc} {x y:SC} (hk:Ok c T G Γ ρ s) (h:(formDesc s dd x&&nilDesc dd y)=true):NilOk dd (x.den ρ) (y.den ρ):=by
 rw [Bool.and_eq_true] at h
 obtain⟨h1,h2⟩:=h
 cases dd<;>first | (cases h2; done) | skip
 · cases y<;>first | (cases h2; done) | skip
   refine⟨?_,rfl⟩
   cases x<;>first | (cases h1; done) | skip
   · rename_i q
     obtain⟨p,hp⟩:=Option.isSome_iff_exists.1 (show (fPt s.ty q).isSome=true from h1)
     obtain⟨b,hb⟩:=ptFrm (cc:=p.1) (g:=p.2) hk hp
     exact .inr ⟨b,0,hb⟩
   · exact .inl rfl
   · exact .inr ⟨_,_,rfl⟩
 · cases y<;>first | (cases h2; done) | skip
   refine⟨?_,rfl⟩
   cases x<;>first | (cases h1; done) | skip
   · rename_i q
     obtain⟨p,hp⟩:=Option.isSome_iff_exists.1 (show (fSl s.ty q).isSome=true from h1)
     exact slFrm (cc:=p.1) (g:=p.2) hk hp
   · exact .inl rfl
 · cases y<;>first | (cases h2; done) | skip
   refine⟨?_,rfl⟩
   cases x<;>first | (cases h1; done) | skip
   · rename_i q
     obtain⟨p,hp⟩:=Option.isSome_iff_exists.1 (show (fMp s.ty q).isSome=true from h1)
     obtain⟨b,hb⟩:=mpFrm (cc:=p.1) (g:=p.2) hk hp
     exact .inr ⟨b,hb⟩
   · exact .inl rfl
theorem nilB_ok {x:SC} {K:BE->SS->R} (h:(nilB s x K).Ok) (hk:Ok c T G Γ ρ s):Pst c T G Γ s ρ fun ρ' s'=>∃b,(K b s').Ok/\b.ev ρ'=isNilA (x.den ρ):=by
 cases x<;>first | (cases h; done) | skip
 case ref y =>
  have h:((match fPt s.ty y with
   | some _=>K (.k false) s
   | none=>match fMp s.ty y with
     | some _=>K (.k false) s
     | none=>match fSl s.ty y with
       | some _=>fresh s fun b s=>K (.v b) s
       | none=>.bad 20 s)).Ok:=h
  cases hp:fPt s.ty y with
  | some p =>
    rw [hp] at h
    obtain⟨b,hb⟩:=ptFrm (cc:=p.1) (g:=p.2) hk hp
    exact Pst.here hk ⟨_,h,by simp only [BE.ev,SC.den,hb]; rfl⟩
  | none =>
    rw [hp] at h
    cases hm:fMp s.ty y with
    | some p =>
      rw [hm] at h
      obtain⟨b,hb⟩:=mpFrm (cc:=p.1) (g:=p.2) hk hm
      exact Pst.here hk ⟨_,h,by simp only [BE.ev,SC.den,hb]; rfl⟩
    | none =>
      rw [hm] at h
      cases hs:fSl s.ty y with
      | none=>rw [hs] at h; cases h
      | some p =>
        rw [hs] at h
        obtain⟨h1,h2,h3,h4⟩:=fresh_ok h hk (.b (isNilA (SC.den ρ (.ref y))))
        exact Pst.mk h2 (Nat.le_succ _) h3 ⟨_,h1,by simp only [BE.ev]; rw [h4]; rfl⟩
 all_goals exact Pst.here hk ⟨_,h,rfl⟩
def emS (a b:SC) (op:BinOp):Option BE:=match a,b,op with
 | .str y,.strc 0 _,.eql=>some (.eq (.a (.sl y)))
 | .str y,.strc 0 _,.neq=>some (.ne (.a (.sl y)))
 | _,_,_=>none
theorem strEq_nil (l m m':Nat):strEq l m 0 m'=decide ((l:Int)=0):=by
 cases l with
 | zero =>
   have h:∀x,strNorm 0 x=0:=fun x=>by show x%1=0; exact Nat.mod_one x
   unfold strEq
   rw [h,h]; rfl
 | succ l =>
   have:Nat.beq (l+1) 0=false:=rfl
   unfold strEq
   rw [this]
   simp
   omega
def bop (cf:Cf) (op:BinOp) (t:TypeId) (x y:SV) (s:SS) (K:SV->SS->R):R:=match x,y with
 | .v false [.int k a],.v false [.int k' b] =>
   bif kindB k k'&&isRel op then K (sc (.bool (beS s (relS op a b)))) s
   else bif kindB k k'&&isArith op then wrS s k (arL op a b) K
   else (match op with
    | .quo=>bif kindB k k' then (match constI b with
      | some q=>bif zerI q then .bad 23 s else bif isI64 k&&(!negI q&&(ent s a&&(fitI s a&&a.lt s.nx))) then fresh s fun x s=>K (sc (.int k (.a (.n x)))) (addF (addF s (a.sub ((LE.a (.n x)).mulc q))) ((((LE.a (.n x)).mulc q).addc (q-1)).sub a)) else wrS s k none K
      | none=>.bad 24 s) else .bad 22 s
    | .and=>bif kindB k k' then wrS s k none K else .bad 22 s
    | .or=>bif kindB k k' then wrS s k none K else .bad 22 s
    | .xor=>bif kindB k k' then wrS s k none K else .bad 22 s
    | .shl=>bif ent s b then wrS s k none K else .bad 25 s
    | .shr=>bif ent s b then wrS s k none K else .bad 25 s
    | _=>.bad 22 s)
 | .v false [a],.v false [b]=>(match strOf a,strOf b with
   | some p,some q=>bif isRel op then (match p,q,op with
     | some p,some q,.eql=>K (sc (.bool (.k (strEq p.1 p.2 q.1 q.2)))) s
     | some p,some q,.neq=>K (sc (.bool (.k (!strEq p.1 p.2 q.1 q.2)))) s
     | _,_,_=>(match emS a b op with
       | some be=>K (sc (.bool (beS s be))) s
       | none=>fresh s fun x s=>K (sc (.bool (.v x))) s)) else .bad 26 s
   | _,_=>match cf.P.underlying t with
     | some dd=>bif formDesc s dd a&&nilDesc dd b then (match op with
       | .eql=>nilB s a fun r s=>K (sc (.bool r)) s
       | .neq=>nilB s a fun r s=>K (sc (.bool r.not)) s
       | _=>.bad 27 s) else .bad 28 s
     | none=>.bad 29 s)
 | _,_=>.bad 30 s
theorem bop_ok {op:BinOp} {t yt:TypeId} {ox oy:Operand} {x y:SV} {K:SV->SS->R} (ho:(opAt ops i).op=.binOp op t ox oy yt) (hg:(opAt ops i).guard=none) (hP:cf.P=c.P) (h:(bop cf op t x y s K).Ok) (hk:Ok c T G Γ ρ s) (hx:EvA c.nt T ox (x.den ρ)) (hy:EvA c.nt T oy (y.den ρ)):Lo c T G Γ ops i s ρ K:=by
 unfold bop at h
 split at h
 · rename_i k a k' b
   have hx:EvA c.nt T ox (.int k (a.ev ρ)):=hx
   have hy:EvA c.nt T oy (.int k' (b.ev ρ)):=hy
   cases hr:(kindB k k'&&isRel op) with
   | true =>
     rw [hr] at h
     rw [Bool.and_eq_true] at hr
     have hkk:k=k':=of_decide_eq_true hr.1
     subst hkk
     refine Lo.here hk h ?_
     show LVG _ _ _ _ _ _ _ _ _ (.bool ((beS s (relS op a b)).ev ρ))
     rw [beS_ok,relS_ok hr.2]
     exact LVG.relE hg ho hr.2 hx hy
   | false =>
     rw [hr] at h
     cases ha:(kindB k k'&&isArith op) with
     | true =>
       rw [ha] at h
       rw [Bool.and_eq_true] at ha
       have hkk:k=k':=of_decide_eq_true ha.1
       subst hkk
       exact wrS_ok h hk (fun e' he=>by rw [arL_ok he ρ]) (LVG.arE hg ho ha.2 hx hy)
     | false =>
       rw [ha] at h
       simp only [cond_false] at h
       split at h
       · cases hkk:kindB k k' with
         | false=>rw [hkk] at h; cases h
         | true =>
           rw [hkk] at h
           have hkk:k=k':=of_decide_eq_true hkk
           subst hkk
           simp only [cond_true] at h
           cases hc:constI b with
           | none=>rw [hc] at h; cases h
           | some q =>
             rw [hc] at h
             simp only at h
             cases hz:zerI q with
             | true=>rw [hz] at h; cases h
             | false =>
               rw [hz] at h
               simp only [cond_false] at h
               have hq:=zerI_f hz
               rw [constI_ok hc ρ] at hy
               obtain⟨r,hr1,_,hl⟩:=LVG.divE hg ho (.inl rfl) hq hx hy (P:=c.P) (n0:=c.n0) (hp:=.e) (nx:=z 0) (G:=G)
               have hr1:=hr1 rfl
               cases hb:(isI64 k&&(!negI q&&(ent s a&&(fitI s a&&a.lt s.nx)))) with
               | false=>rw [hb] at h; exact wrS_fr h hk hl
               | true =>
                 rw [hb] at h
                 simp only [cond_true] at h
                 simp only [Bool.and_eq_true,Bool.not_eq_true'] at hb
                 obtain⟨hb1,hb2,hb3,hb4,hb5⟩:=hb
                 have:=isI64_ok hb1
                 subst this
                 have hqp:=negI_f hb2
                 have hap:=ent_ok hb3 hk.sat
                 have hpos:0<q:=by omega
                 have hd1:(a.ev ρ).tdiv q=a.ev ρ/q:=Int.tdiv_eq_ediv_of_nonneg hap
                 have hd0:0<=a.ev ρ/q:=Int.ediv_nonneg hap hqp
                 have hd2:a.ev ρ/q<=a.ev ρ:=Int.ediv_le_self _ hap
                 have hfa:=fitI_ok hb4 hk.sat
                 have hfit:IntKind.i64.wrap (a.ev ρ/q)=a.ev ρ/q:=by
                  rw [IntKind.wrap_i64] at hfa ⊢
                  omega
                 rw [hr1,hd1,hfit] at hl
                 obtain⟨h1,h2,h3,h4⟩:=fresh_ok h hk (.n (a.ev ρ/q).toNat)
                 have hx1:(LE.a (.n s.nx)).ev (ρ.up s.nx (.n (a.ev ρ/q).toNat))=a.ev ρ/q:=by
                  rw [LE.ev_a]; show ((ρ.up s.nx (.n (a.ev ρ/q).toNat) s.nx).nn:Int)=_
                  rw [h4]; show (((a.ev ρ/q).toNat:Nat):Int)=_; omega
                 have hae:=LE.agr h2 hb5
                 have e1:=Int.mul_ediv_add_emod (a.ev ρ) q
                 have e2:=Int.emod_nonneg (a.ev ρ) hq
                 have e3:=Int.emod_lt_of_pos (a.ev ρ) hpos
                 refine Pst.mk h2 (Nat.le_succ _) ((h3.addF ?_).addF ?_) ⟨_,h1,?_⟩
                 · rw [LE.ev_sub,LE.ev_mulc,hx1,hae]; omega
                 · rw [LE.ev_sub,LE.ev_addc,LE.ev_mulc,hx1,hae]; omega
                 · show LVG _ _ _ _ _ _ _ _ _ (.int .i64 ((LE.a (.n s.nx)).ev _))
                   rw [hx1]; exact hl
       · cases hkk:kindB k k' with
         | false=>rw [hkk] at h; cases h
         | true =>
           rw [hkk] at h
           have hkk:k=k':=of_decide_eq_true hkk
           subst hkk
           obtain⟨r,hl⟩:=LVG.bitE hg ho (.inl rfl) hx hy (P:=c.P) (n0:=c.n0) (hp:=.e) (nx:=z 0) (G:=G)
           exact wrS_fr h hk hl
       · cases hkk:kindB k k' with
         | false=>rw [hkk] at h; cases h
         | true =>
           rw [hkk] at h
           have hkk:k=k':=of_decide_eq_true hkk
           subst hkk
           obtain⟨r,hl⟩:=LVG.bitE hg ho (.inr (.inl rfl)) hx hy (P:=c.P) (n0:=c.n0) (hp:=.e) (nx:=z 0) (G:=G)
           exact wrS_fr h hk hl
       · cases hkk:kindB k k' with
         | false=>rw [hkk] at h; cases h
         | true =>
           rw [hkk] at h
           have hkk:k=k':=of_decide_eq_true hkk
           subst hkk
           obtain⟨r,hl⟩:=LVG.bitE hg ho (.inr (.inr rfl)) hx hy (P:=c.P) (n0:=c.n0) (hp:=.e) (nx:=z 0) (G:=G)
           exact wrS_fr h hk hl
       · cases hb:ent s b with
         | false=>rw [hb] at h; cases h
         | true =>
           rw [hb] at h
           obtain⟨r,hl⟩:=LVG.shE hg ho (.inl rfl) (ent_ok hb hk.sat) hx hy (P:=c.P) (n0:=c.n0) (hp:=.e) (nx:=z 0) (G:=G)
           exact wrS_fr h hk hl
       · cases hb:ent s b with
         | false=>rw [hb] at h; cases h
         | true =>
           rw [hb] at h
           obtain⟨r,hl⟩:=LVG.shE hg ho (.inr rfl) (ent_ok hb hk.sat) hx hy (P:=c.P) (n0:=c.n0) (hp:=.e) (nx:=z 0) (G:=G)
           exact wrS_fr h hk hl
       · cases h
 · rename_i a b hne
   have hx:EvA c.nt T ox (a.den ρ):=hx
   have hy:EvA c.nt T oy (b.den ρ):=hy
   split at h
   · rename_i p q hp hq
     obtain⟨l,m,e1,p1⟩:=strOf_den hp ρ
     obtain⟨l',m',e2,p2⟩:=strOf_den hq ρ
     rw [e1] at hx
     rw [e2] at hy
     cases hr:isRel op with
     | false=>rw [hr] at h; cases h
     | true =>
       rw [hr] at h
       simp only [cond_true] at h
       obtain⟨b',q1,q2,hl⟩:=LVG.strE hg ho hr hx hy (P:=c.P) (n0:=c.n0) (hp:=.e) (nx:=z 0) (G:=G)
       have fin:((fresh s fun x s=>K (sc (.bool (.v x))) s)).Ok->Lo c T G Γ ops i s ρ K:=fun h=>by
        obtain⟨h1,h2,h3,h4⟩:=fresh_ok h hk (.b b')
        refine Lo.fr h3 h1 ?_
        show LVG _ _ _ _ _ _ _ _ _ (.bool ((BE.v s.nx).ev _))
        simp only [BE.ev]
        rw [h4]
        exact hl
       split at h
       · rename_i p q
         have:=p1 p rfl; subst this
         have:=p2 q rfl; subst this
         refine Lo.here hk h ?_
         have:=q1 rfl
         subst this
         exact hl
       · rename_i p q
         have:=p1 p rfl; subst this
         have:=p2 q rfl; subst this
         refine Lo.here hk h ?_
         have:=q2 rfl
         subst this
         exact hl
       · cases he:emS a b op with
         | none=>rw [he] at h; exact fin h
         | some be =>
           rw [he] at h
           refine Lo.here hk h ?_
           show LVG _ _ _ _ _ _ _ _ _ (.bool ((beS s be).ev ρ))
           rw [beS_ok]
           have e1:a.den ρ=.str l m:=e1
           have e2:b.den ρ=.str l' m':=e2
           unfold emS at he
           split at he
           · cases he
             simp only [SC.den,AV.str.injEq] at e1 e2
             have:=q1 rfl
             rw [<-e2.1,<-e1.1,strEq_nil] at this
             subst this
             simp only [BE.ev,LE.ev_a]
             exact hl
           · cases he
             simp only [SC.den,AV.str.injEq] at e1 e2
             have:=q2 rfl
             rw [<-e2.1,<-e1.1,strEq_nil] at this
             subst this
             simp only [BE.ev,LE.ev_a]
             exact hl
           · cases he
   · split at h
     · rename_i dd hu
       rw [hP] at hu
       cases hf:(formDesc s dd a&&nilDesc dd b) with
       | false=>rw [hf] at h; cases h
       | true =>
         rw [hf] at h
         simp only [cond_true] at h
         have hn:=formDesc_ok hk hf
         split at h
         · refine (nilB_ok h hk).mono fun ρ' s' a1 n1 o1 hh=>?_
           obtain⟨r,g1,g2⟩:=hh
           refine⟨_,g1,?_⟩
           show LVG _ _ _ _ _ _ _ _ _ (.bool (r.ev ρ'))
           rw [g2]
           have:=LVG.eqNil (neq:=false) hg ho hu hx hy hn (P:=c.P) (n0:=c.n0) (hp:=.e) (nx:=z 0) (G:=G)
           simpa using this
         · refine (nilB_ok h hk).mono fun ρ' s' a1 n1 o1 hh=>?_
           obtain⟨r,g1,g2⟩:=hh
           refine⟨_,g1,?_⟩
           show LVG _ _ _ _ _ _ _ _ _ (.bool (r.not.ev ρ'))
           rw [BE.ev_not,g2]
           have:=LVG.eqNil (neq:=true) hg ho hu hx hy hn (P:=c.P) (n0:=c.n0) (hp:=.e) (nx:=z 0) (G:=G)
           simpa using this
         · cases h
     · cases h
 · cases h
end
end Go.Rd
namespace Go.Rd
open Go.Rex Go.RowKit Go.Rt
section
variable {c:Cx} {T:Tm} {G:GH} {Γ:Gam} {ρ ρ':Rho} {s s':SS} {cf:Cf} {ops:Array Oper} {i:Nat}
theorem opv_tmp {t:Nat} {v:SV} (h:opv s (.tmp t)=some v) (hq:Q c T G Γ (s.den ρ)):T.at t=v.den ρ:=hq.at_ _ _ (lkS_den h)
def inS (s:SS) (y:Nat) (e:LE):Bool:=(fSl s.ty y).isSome&&(ent s e&&ent s (((LE.a (.len y)).sub e).addc (-1)))
theorem inS_ok {y:Nat} {e:LE} (h:inS s y e=true) (hk:Ok c T G Γ ρ s):∃cc g b o cp,fSl s.ty y=some (cc,g)/\(ρ y).vv=.rsl b o (ρ y).ns.length cp/\0<=e.ev ρ/\(e.ev ρ).toNat<(ρ y).ns.length/\TOk c.P c.Φ G Γ (.sl (ρ y).vv cc (ig ρ g) (ρ y).ns):=by
 unfold inS at h
 simp only [Bool.and_eq_true] at h
 obtain⟨h1,h2,h3⟩:=h
 obtain⟨p,hp⟩:=Option.isSome_iff_exists.1 h1
 have ht:=hk.ty (fSl_mem (c:=p.1) (g:=p.2) hp)
 have e1:=ent_ok h2 hk.sat
 have e2:=ent_ok h3 hk.sat
 rw [LE.ev_addc,LE.ev_sub,LE.ev_a] at e2
 have e2:0<=((ρ y).ns.length:Int)-e.ev ρ+-1:=e2
 rcases ht.form with ⟨h,h0⟩ | ⟨b,o,cp,h⟩
 · have h0:(ρ y).ns=[]:=h0
   rw [h0] at e2; simp at e2; omega
 · exact⟨p.1,p.2,b,o,cp,hp,h,e1,by omega,ht⟩
theorem elp_rpt {b o l cp k:Nat} {v:AV} (h:v=.rsl b o l cp):elpA v k=.rpt b (o+k):=by subst h; rfl
def fao (cf:Cf) (t:TypeId) (x:SV) (f:Nat) (s:SS) (K:SV->SS->R):R:=match fieldOff cf.P t f with
 | some (off,ft)=>bif Nat.beq (szOf cf.P ft) 0 then .bad 40 s else (match x with
   | .v false [.rpt b o]=>K (sc (.rpt b (o+off))) s
   | .v false [.elp y e sz o]=>bif inS s y e then K (sc (.elp y e sz (o+off))) s else .bad 41 s
   | .v false [.ref y]=>(match fPt s.ty y with | some _=>K (sc (.ptp y off)) s | none=>.bad 42 s)
   | .v false [.ptp y o]=>(match fPt s.ty y with | some _=>K (sc (.ptp y (o+off))) s | none=>.bad 42 s)
   | _=>.bad 43 s)
 | none=>.bad 44 s
theorem fao_ok {t:TypeId} {x f:Nat} {v:SV} {K:SV->SS->R} (ho:(opAt ops i).op=.fieldAddr t (.tmp x) f) (hg:(opAt ops i).guard=none) (hP:cf.P=c.P) (h:(fao cf t v f s K).Ok) (hk:Ok c T G Γ ρ s) (hx:T.at x=v.den ρ):Lo c T G Γ ops i s ρ K:=by
 unfold fao at h
 rw [hP] at h
 cases hf:fieldOff c.P t f with
 | none=>rw [hf] at h; cases h
 | some p =>
   obtain⟨off,ft⟩:=p
   rw [hf] at h
   simp only at h
   cases hz:Nat.beq (szOf c.P ft) 0 with
   | true=>rw [hz] at h; cases h
   | false =>
     rw [hz] at h
     simp only [cond_false] at h
     split at h
     · exact Lo.here hk h (LVG.field hg ho hx hf hz)
     · rename_i y e sz o
       cases hi:inS s y e with
       | false=>rw [hi] at h; cases h
       | true =>
         rw [hi] at h
         obtain⟨cc,g,b,o',cp,_,h1,_⟩:=inS_ok hi hk
         have hx:T.at x=.rpt b (o'+((e.ev ρ).toNat*sz+o)):=hx.trans (elp_rpt h1)
         refine Lo.here hk h ?_
         have:=LVG.field hg ho hx hf hz (P:=c.P) (n0:=c.n0) (nt:=c.nt) (hp:=.e) (nx:=z 0) (G:=G)
         show LVG _ _ _ _ _ _ _ _ _ (elpA (ρ y).vv ((e.ev ρ).toNat*sz+(o+off)))
         rw [elp_rpt h1,show o'+((e.ev ρ).toNat*sz+(o+off))=o'+((e.ev ρ).toNat*sz+o)+off by omega]
         exact this
     · rename_i y
       cases hp:fPt s.ty y with
       | none=>rw [hp] at h; cases h
       | some q =>
         rw [hp] at h
         obtain⟨b,hb⟩:=ptFrm (cc:=q.1) (g:=q.2) hk hp
         have hx:T.at x=.rpt b 0:=hx.trans hb
         refine Lo.here hk h ?_
         show LVG _ _ _ _ _ _ _ _ _ (ptpA (ρ y).vv off)
         rw [hb]
         exact LVG.field hg ho hx hf hz
     · rename_i y o
       cases hp:fPt s.ty y with
       | none=>rw [hp] at h; cases h
       | some q =>
         rw [hp] at h
         obtain⟨b,hb⟩:=ptFrm (cc:=q.1) (g:=q.2) hk hp
         have hx:T.at x=.rpt b (0+o):=hx.trans (by show ptpA (ρ y).vv o=_; rw [hb]; rfl)
         refine Lo.here hk h ?_
         show LVG _ _ _ _ _ _ _ _ _ (ptpA (ρ y).vv (o+off))
         rw [hb]
         have:=LVG.field hg ho hx hf hz (P:=c.P) (n0:=c.n0) (nt:=c.nt) (hp:=.e) (nx:=z 0) (G:=G)
         show LVG _ _ _ _ _ _ _ _ _ (.rpt b (0+(o+off)))
         rw [<-Nat.add_assoc]
         exact this
     · cases h
def nco (x:SV) (s:SS) (K:SV->SS->R):R:=match x with
 | .v false [.rpt b o]=>K x s
 | .v false [.elp y e sz o]=>bif inS s y e then K x s else .bad 41 s
 | .v false [.ref y]=>(match fPt s.ty y with | some _=>K x s | none=>.bad 42 s)
 | .v false [.ptp y o]=>(match fPt s.ty y with | some _=>K x s | none=>.bad 42 s)
 | _=>.bad 45 s
theorem nco_ok {x:Nat} {v:SV} {K:SV->SS->R} (ho:(opAt ops i).op=.nilCheck (.tmp x)) (hg:(opAt ops i).guard=none) (h:(nco v s K).Ok) (hk:Ok c T G Γ ρ s) (hx:T.at x=v.den ρ):Lo c T G Γ ops i s ρ K:=by
 unfold nco at h
 split at h
 · exact Lo.here hk h (LVG.nil hg ho hx)
 · rename_i y e sz o
   cases hi:inS s y e with
   | false=>rw [hi] at h; cases h
   | true =>
     rw [hi] at h
     obtain⟨cc,g,b,o',cp,_,h1,_⟩:=inS_ok hi hk
     have e1:(SV.v false [.elp y e sz o]).den ρ=.rpt b (o'+((e.ev ρ).toNat*sz+o)):=elp_rpt h1
     exact Lo.here hk h (by rw [e1]; exact LVG.nil hg ho (hx.trans e1))
 · rename_i y
   cases hp:fPt s.ty y with
   | none=>rw [hp] at h; cases h
   | some q =>
     rw [hp] at h
     obtain⟨b,hb⟩:=ptFrm (cc:=q.1) (g:=q.2) hk hp
     have e1:(SV.v false [.ref y]).den ρ=.rpt b 0:=hb
     exact Lo.here hk h (by rw [e1]; exact LVG.nil hg ho (hx.trans e1))
 · rename_i y o
   cases hp:fPt s.ty y with
   | none=>rw [hp] at h; cases h
   | some q =>
     rw [hp] at h
     obtain⟨b,hb⟩:=ptFrm (cc:=q.1) (g:=q.2) hk hp
     have e1:(SV.v false [.ptp y o]).den ρ=.rpt b (0+o):=by show ptpA (ρ y).vv o=_; rw [hb]; rfl
     exact Lo.here hk h (by rw [e1]; exact LVG.nil hg ho (hx.trans e1))
 · cases h
def ixo (cf:Cf) (t:TypeId) (x:SV) (e:SV) (s:SS) (K:SV->SS->R):R:=match x,e with
 | .v false [.ref y],.v false [.int kd e]=>(match fSl s.ty y,cf.P.underlying t with
   | some (cc,g),some (.slice el)=>bif Nat.beq el (cf.Φ.ty cc)&&((cf.P.info? el).isSome&&inS s y e) then K (sc (.elp y e (szOf cf.P el) 0)) s else .bad 46 s
   | _,_=>.bad 47 s)
 | .v false [.rpt b o],.v false [.int kd e]=>(match cf.P.underlying t,constI e with
   | some (.array n el),some (.ofNat k)=>bif (cf.P.info? el).isSome&&Nat.blt k n then K (sc (.rpt b (o+k*szOf cf.P el))) s else .bad 48 s
   | _,_=>.bad 49 s)
 | _,_=>.bad 50 s
theorem LVG.indexArr {P:Program} {n0 nt:Nat} {hp:Tr AO} {nx:Pz} {t e:TypeId} {x b o j n:Nat} {y:Operand} {kd:IntKind} (hg:(opAt ops i).guard=none) (ho:(opAt ops i).op=.indexAddr t (.tmp x) y) (hx:T.at x=.rpt b o) (hy:EvA nt T y (.int kd (.ofNat j))) (hu:P.underlying t=some (.array n e))
  (hi:(P.info? e).isSome=true) (hlt:j<n):LVG P ops n0 nt i T hp nx G (.rpt b (o+j*szOf P e)):=by
 refine lvg_mk hg fun B w0 ι a w hs=>?_
 obtain⟨k,hk⟩:=Option.isSome_iff_exists.1 hi
 simp only [execOp,ho]
 rw [satG_val hs x hx,EvA.at hy hs,ren_int]
 simp only [ren,Sem.run_bind]
 rw [idx_array hu ⟨k,hk⟩ hlt]
 simp
theorem LVG.indexE {P:Program} {n0 nt:Nat} {hp:Tr AO} {nx:Pz} {t e:TypeId} {x b o len cap j n:Nat} {y:Operand} {kd:IntKind} (hg:(opAt ops i).guard=none) (ho:(opAt ops i).op=.indexAddr t (.tmp x) y) (hx:T.at x=.rsl b o len cap) (hy:EvA nt T y (.int kd (.ofNat j))) (hu:P.underlying t=some (.slice e))
  (hi:(P.info? e).isSome=true) (hn:szOf P e=n) (hlt:j<len):LVG P ops n0 nt i T hp nx G (.rpt b (o+j*n)):=by
 refine lvg_mk hg fun B w0 ι a w hs=>?_
 obtain⟨k,hk⟩:=Option.isSome_iff_exists.1 hi
 simp only [execOp,ho]
 rw [satG_val hs x hx,EvA.at hy hs,ren_int]
 simp only [ren,Sem.run_bind]
 rw [radr_pos (by omega),idx_slice hu ⟨k,hk⟩ hlt,hn]
 simp
theorem ixo_ok {t:TypeId} {x:Nat} {y:Operand} {v u:SV} {K:SV->SS->R} (ho:(opAt ops i).op=.indexAddr t (.tmp x) y) (hg:(opAt ops i).guard=none) (hP:cf.P=c.P) (hΦ:cf.Φ=c.Φ) (h:(ixo cf t v u s K).Ok) (hk:Ok c T G Γ ρ s) (hx:T.at x=v.den ρ) (hy:EvA c.nt T y (u.den ρ)):Lo c T G Γ ops i s ρ K:=by
 unfold ixo at h
 rw [hP,hΦ] at h
 split at h
 · rename_i y kd e
   split at h
   · rename_i cc g el hf hu
     cases hb:(Nat.beq el (c.Φ.ty cc)&&((c.P.info? el).isSome&&inS s y e)) with
     | false=>rw [hb] at h; cases h
     | true =>
       rw [hb] at h
       simp only [Bool.and_eq_true] at hb
       obtain⟨h1,h2,h3⟩:=hb
       obtain⟨cc',g',b,o,cp,q1,q2,q3,q4,q5⟩:=inS_ok h3 hk
       refine Lo.here hk h ?_
       show LVG _ _ _ _ _ _ _ _ _ (elpA (ρ y).vv ((e.ev ρ).toNat*szOf c.P el+0))
       rw [elp_rpt q2,Nat.add_zero]
       refine LVG.indexE hg ho (hx.trans q2) ?_ hu h2 rfl q4 (kd:=kd)
       have:(SV.v false [.int kd e]).den ρ=.int kd (.ofNat (e.ev ρ).toNat):=by show AV.int kd (e.ev ρ)=_; congr 1; exact (Int.toNat_of_nonneg q3).symm
       rw [<-this]; exact hy
   · cases h
 · rename_i b o kd e
   split at h
   · rename_i n el k hu hc
     cases hb:((c.P.info? el).isSome&&Nat.blt k n) with
     | false=>rw [hb] at h; cases h
     | true =>
       rw [hb] at h
       rw [Bool.and_eq_true] at hb
       refine Lo.here hk h ?_
       refine LVG.indexArr hg ho hx ?_ hu hb.1 (blt_ok hb.2) (kd:=kd)
       have:(SV.v false [.int kd e]).den ρ=.int kd (.ofNat k):=by show AV.int kd (e.ev ρ)=_; rw [constI_ok hc ρ]
       rw [<-this]; exact hy
   · cases h
 · cases h
def lkPw:List (Nat × LE × LE)->Nat->LE->Option LE
 | [],_,_=>none
 | p::l,y,e=>bif Nat.beq p.1 y&&p.2.1.same e then some p.2.2 else lkPw l y e
theorem lkPw_ok:∀{l:List (Nat × LE × LE)} {y:Nat} {e w:LE},lkPw l y e=some w->∃e',(y,e',w)∈l/\∀ρ,e'.ev ρ=e.ev ρ
 | [],_,_,_,h=>by cases h
 | p::l,y,e,w,h=>by
   have h:(bif Nat.beq p.1 y&&p.2.1.same e then some p.2.2 else lkPw l y e)=some w:=h
   cases hb:(Nat.beq p.1 y&&p.2.1.same e) with
   | true =>
     rw [hb] at h; cases h
     rw [Bool.and_eq_true] at hb
     have:=Nat.eq_of_beq_eq_true hb.1; subst this
     exact⟨p.2.1,List.mem_cons_self ..,LE.same_ok hb.2⟩
   | false=>rw [hb] at h; obtain⟨e',h1,h2⟩:=lkPw_ok h; exact⟨e',List.mem_cons_of_mem _ h1,h2⟩
def pwOf (s:SS) (y:Nat) (e:LE):Option LE:=match constI e with
 | some k=>bif zerI k then some (.k 0) else lkPw s.pw y e
 | none=>lkPw s.pw y e
theorem pwOf_ok {y:Nat} {e w:LE} (h:pwOf s y e=some w) (hs:Sat ρ s):(((ρ y).ns.take (e.ev ρ).toNat).sum:Int)+e.ev ρ=w.ev ρ:=by
 have key:lkPw s.pw y e=some w->(((ρ y).ns.take (e.ev ρ).toNat).sum:Int)+e.ev ρ=w.ev ρ:=fun h=>by
  obtain⟨e',h1,h2⟩:=lkPw_ok h
  have:=(hs.pw _ h1).2
  have this:((((ρ y).ns.take (e'.ev ρ).toNat).sum:Nat):Int)+e'.ev ρ=w.ev ρ:=this
  rw [h2 ρ] at this
  exact this
 unfold pwOf at h
 cases hc:constI e with
 | none=>rw [hc] at h; exact key h
 | some k =>
   rw [hc] at h
   simp only at h
   cases hz:zerI k with
   | false=>rw [hz] at h; exact key h
   | true =>
     rw [hz] at h; cases h
     have:=constI_ok hc ρ
     rw [zerI_t hz] at this
     rw [this,LE.ev_k]; simp
def prt (cf:Cf) (cc g:Nat) (e:LE) (off n:Nat) (ag:Bool) (bnd:LE) (s:SS) (K:SV->SS->R) (eq:Bool:=false):R :=
 bif Nat.ble (off+n) (cf.Φ.ks cc).length&&(igLt s.nx g&&(ltO s.nx (ghost s.gs g)&&(e.lt s.nx&&bnd.lt s.nx))) then
  patK cf g (ghost s.gs g) e (((cf.Φ.ks cc).drop off).take n) (fun xs os s=>K (.v ag xs) (bif eq then addF (addF s (bnd.sub (sumW os))) ((sumW os).sub bnd) else bif os.isEmpty then s else addF s (bnd.sub (sumW os)))) s
 else .bad 51 s
def whole (cf:Cf) (cc off n:Nat):Bool:=cf.Φ.raw cc&&(Nat.beq off 0&&Nat.beq n (cf.Φ.ks cc).length)
def lde (cf:Cf) (y:Nat) (e:LE) (off n:Nat) (ag:Bool) (cc g:Nat) (s:SS) (K:SV->SS->R):R :=
 bif cf.Φ.uni cc then prt cf cc g e off n ag (.k WU) s K
 else bif Nat.blt y s.nx&&(e.lt s.nx&&igLt s.nx g) then (match pwOf s y e with
  | some w=>bif w.lt s.nx then fresh s fun m s=>prt cf cc g e off n ag (.a (.n m)) (addPw (addF s (((((LE.a (.wt y)).sub w).sub (.a (.n m))).addc (-1)))) (y,e.addc 1,(w.add (.a (.n m))).addc 1)) K (whole cf cc off n) else .bad 52 s
  | none=>fresh s fun m s=>prt cf cc g e off n ag (.a (.n m)) (addF s (((LE.a (.wt y)).sub (.a (.n m))).addc (-1))) K (whole cf cc off n)) else .bad 53 s
def fEl:List STF->Nat->Nat->LE->Nat->Option SC
 | [],_,_,_,_=>none
 | .el y' c' e' o' v::l,y,cc,e,o=>bif Nat.beq y' y&&(Nat.beq c' cc&&(Nat.beq o' o&&e'.same e)) then some v else fEl l y cc e o
 | _::l,y,cc,e,o=>fEl l y cc e o
def elL (l:List STF) (y cc:Nat) (e:LE):Nat->Nat->Option (List SC)
 | _,0=>some []
 | o,n+1=>match fEl l y cc e o,elL l y cc e (o+1) n with | some x,some xs=>some (x::xs) | _,_=>none
def addEls (s:SS) (y cc:Nat) (e:LE):Nat->List SC->SS
 | _,[]=>s
 | o,x::xs=>addTy (addEls s y cc e (o+1) xs) (.el y cc e o x)
def lde2 (cf:Cf) (y:Nat) (e:LE) (off n:Nat) (ag:Bool) (cc g:Nat) (s:SS) (K:SV->SS->R):R :=
 bif cf.Φ.raw cc&&Nat.blt 0 n then (match elL s.ty y cc e off n with
  | some xs=>K (.v ag xs) s
  | none=>bif Nat.blt y s.nx&&e.lt s.nx then lde cf y e off n ag cc g s fun v s'=>(match v with | .v ag' xs=>K (.v ag' xs) (addEls s' y cc e off xs) | v=>K v s') else .bad 66 s)
 else lde cf y e off n ag cc g s K
def ldo (cf:Cf) (t:TypeId) (x:SV) (s:SS) (K:SV->SS->R):R:=match x with
 | .v false [.rpt b o]=>(match locAt s.os b with
   | some (_,cs)=>bif aggT cf.P t then (bif Nat.ble (o+szOf cf.P t) cs.length then K (.v true ((cs.drop o).take (szOf cf.P t))) s else .bad 54 s)
     else bif knownT cf.P t then (match cs[o]? with | some x=>K (sc x) s | none=>.bad 55 s) else .bad 56 s
   | none=>.bad 57 s)
 | .v false [.elp y e sz o]=>(match fSl s.ty y with
   | some (cc,g)=>bif inS s y e&&Nat.beq sz (szOf cf.P (cf.Φ.ty cc)) then
     (bif aggT cf.P t then lde2 cf y e o (szOf cf.P t) true cc g s K else bif knownT cf.P t then lde2 cf y e o 1 false cc g s K else .bad 56 s) else .bad 58 s
   | none=>.bad 59 s)
 | .v false [.ref y]=>(match fPt s.ty y with
   | some (cc,g)=>bif cf.Φ.uni cc then (bif aggT cf.P t then prt cf cc g (.k 0) 0 (szOf cf.P t) true (.k WU) s K else bif knownT cf.P t then prt cf cc g (.k 0) 0 1 false (.k WU) s K else .bad 56 s) else .bad 62 s
   | none=>.bad 60 s)
 | .v false [.ptp y o]=>(match fPt s.ty y with
   | some (cc,g)=>bif cf.Φ.uni cc then (bif aggT cf.P t then prt cf cc g (.k 0) o (szOf cf.P t) true (.k WU) s K else bif knownT cf.P t then prt cf cc g (.k 0) o 1 false (.k WU) s K else .bad 56 s) else .bad 62 s
   | none=>.bad 60 s)
 | _=>.bad 61 s
theorem wts_mid {Φ:Forms} {d:Gd} {g j:Nat} {ks:List K2} {cs:List AV} {fs:List TF} (h:WtS Φ d g j ks cs fs) (off n:Nat):∃f2,WtS Φ d g j ((ks.drop off).take n) ((cs.drop off).take n) f2/\wgt Φ f2<=wgt Φ fs/\∀f∈f2,f∈fs:=by
 have hk:ks=ks.take off++((ks.drop off).take n++(ks.drop off).drop n):=by rw [List.take_append_drop,List.take_append_drop]
 rw [hk] at h
 obtain⟨f1,f',e1,w1,w2⟩:=WtS.split h
 obtain⟨f2,f3,e2,w3,w4⟩:=WtS.split w2
 have hl:=h.len
 rw [<-hk] at hl
 refine⟨f2,?_,?_,?_⟩
 · have e3:(List.drop (List.take off ks).length cs).take (List.take n (List.drop off ks)).length=(cs.drop off).take n:=by
    rw [List.length_take,List.length_take,List.length_drop]
    by_cases ho:off<=ks.length
    · rw [Nat.min_eq_left ho]
      by_cases hn:n<=ks.length-off
      · rw [Nat.min_eq_left hn]
      · rw [Nat.min_eq_right (by omega),List.take_of_length_le (by rw [List.length_drop]; omega),List.take_of_length_le (by rw [List.length_drop]; omega)]
    · rw [Nat.min_eq_right (by omega),List.drop_of_length_le (by omega),List.drop_of_length_le (by omega)]; simp
   rw [<-e3]; exact w3
 · rw [e1,e2,wgt_append,wgt_append]; omega
 · intro f hf; rw [e1,e2]; simp [hf]
theorem wts_all {Φ:Forms} {d:Gd} {g j:Nat} {ks:List K2} {cs:List AV} {fs:List TF} (h:WtS Φ d g j ks cs fs):WtS Φ d g j ((ks.drop 0).take ks.length) ((cs.drop 0).take ks.length) fs:=by
 have:=h.len
 rw [List.drop_zero,List.drop_zero,List.take_of_length_le (Nat.le_refl _),List.take_of_length_le (by omega)]
 exact h
theorem prt_ok {cc g J m:Nat} {e bnd:LE} {off n:Nat} {ag eq:Bool} {K:SV->SS->R} {cells:List AV} (hΦ:cf.Φ=c.Φ) (h:(prt cf cc g e off n ag bnd s K eq).Ok) (hk:Ok c T G Γ ρ s) (he:0<=e.ev ρ/\J=(e.ev ρ).toNat) (hE:ElOk c.P c.Φ G Γ m cc (ig ρ g) J cells) (hb:(m:Int)<=bnd.ev ρ)
  (hq:eq=true->off=0/\n=(c.Φ.ks cc).length/\bnd.ev ρ=(m:Int)/\∃fs,WtS c.Φ (Γ.gd (ig ρ g)) (ig ρ g) J (c.Φ.ks cc) cells fs/\wgt c.Φ fs=m/\∀f∈fs,TOk c.P c.Φ G Γ f:=by exact fun h=>by cases h) :
  Pst c T G Γ s ρ fun ρ' s'=>∃xs,(K (.v ag xs) s').Ok/\denL ρ' xs=(cells.drop off).take n:=by
 unfold prt at h
 rw [hΦ] at h
 cases hc:(Nat.ble (off+n) (c.Φ.ks cc).length&&(igLt s.nx g&&(ltO s.nx (ghost s.gs g)&&(e.lt s.nx&&bnd.lt s.nx)))) with
 | false=>rw [hc] at h; cases h
 | true =>
   rw [hc] at h
   simp only [Bool.and_eq_true] at hc
   obtain⟨c1,c2,c3,c4,c5⟩:=hc
   obtain⟨f2,m1,m2,m3,m4⟩:∃f2,WtS c.Φ (Γ.gd (ig ρ g)) (ig ρ g) J (((c.Φ.ks cc).drop off).take n) ((cells.drop off).take n) f2/\wgt c.Φ f2<=m/\(∀f∈f2,TOk c.P c.Φ G Γ f)/\(eq=true->bnd.ev ρ=(wgt c.Φ f2:Int)):=by
    cases hqe:eq with
    | true =>
      obtain⟨q1,q2,q3,fs,w1,w2,w3⟩:=hq hqe
      subst q1 q2
      exact⟨fs,wts_all w1,Nat.le_of_eq w2,w3,fun _=>by rw [q3,w2]⟩
    | false =>
      obtain⟨fs,w1,w2,w3⟩:=hE
      obtain⟨f2,m1,m2,m3⟩:=wts_mid w1 off n
      exact⟨f2,m1,by omega,fun f hf=>w3 f (m3 f hf),fun h=>by cases h⟩
   refine (patK_ok hΦ (J:=J) h hk c2 (fun dv hd=>?_) ⟨c4,he⟩ m1 m3).bind fun ρ1 s1 a1 n1 o1 hh=>?_
   · rw [hd] at c3; exact⟨blt_ok c3,ghost_ok hd hk⟩
   · obtain⟨xs,os,g1,g2,g3,g4⟩:=hh
     cases hqe:eq with
     | true =>
       rw [hqe] at g1
       have e0:bnd.ev ρ1=(sumW os).ev ρ1:=by rw [sumW_ev,LE.agr a1 c5,g4,m4 hqe]
       exact Pst.mk (s':=Rd.addF (Rd.addF s1 (bnd.sub (sumW os))) ((sumW os).sub bnd)) (Agr.refl _ _) (Nat.le_refl _) ((o1.addF (by rw [LE.ev_sub]; omega)).addF (by rw [LE.ev_sub]; omega)) ⟨xs,g1,g2⟩
     | false =>
     rw [hqe] at g1
     cases hos:os.isEmpty with
     | true=>rw [hos] at g1; exact Pst.here o1 ⟨xs,g1,g2⟩
     | false =>
       rw [hos] at g1
       refine Pst.mk (s':=Rd.addF s1 (bnd.sub (sumW os))) (Agr.refl _ _) (Nat.le_refl _) (o1.addF ?_) ⟨xs,g1,g2⟩
       rw [LE.ev_sub,sumW_ev,LE.agr a1 c5,g4]
       omega
theorem lde_ok {y cc g:Nat} {e:LE} {off n:Nat} {ag:Bool} {K:SV->SS->R} (hP:cf.P=c.P) (hΦ:cf.Φ=c.Φ) (h:(lde cf y e off n ag cc g s K).Ok) (hk:Ok c T G Γ ρ s) (he:0<=e.ev ρ) (hlt:(e.ev ρ).toNat<(ρ y).ns.length) (ht:TOk c.P c.Φ G Γ (.sl (ρ y).vv cc (ig ρ g) (ρ y).ns)) (hfsl:fSl s.ty y=some (cc,g)) :
  Pst c T G Γ s ρ fun ρ' s'=>∃xs b o cap kd el size C,(K (.v ag xs) s').Ok/\(ρ y).vv=.rsl b o (ρ y).ns.length cap/\G b=some (.cells kd el size C)/\o+(e.ev ρ).toNat*szOf c.P (c.Φ.ty cc)+szOf c.P (c.Φ.ty cc)<=C.length/\(c.Φ.ks cc).length=szOf c.P (c.Φ.ty cc)/\off+n<=(c.Φ.ks cc).length /\
   denL ρ' xs=((((C.drop (o+(e.ev ρ).toNat*szOf c.P (c.Φ.ty cc))).take (szOf c.P (c.Φ.ty cc))).drop off).take n):=by
 obtain⟨m,hm⟩:∃m,(ρ y).ns[(e.ev ρ).toNat]?=some m:=⟨_,List.getElem?_eq_getElem hlt⟩
 obtain⟨b,o,cap,kd,el,size,C,q1,q2,q3,q4,q5⟩:=ht.atE hk.q.ht hm
 have hlen:(c.Φ.ks cc).length=szOf c.P (c.Φ.ty cc):=by
  obtain⟨fs,w1,_⟩:=q4
  rw [<-w1.len,List.length_take,List.length_drop]; omega
 have fin:∀{ρ1:Rho} {s1:SS} {bnd:LE} {eq:Bool},Agr s.nx ρ ρ1->s.nx<=s1.nx->Ok c T G Γ ρ1 s1->(prt cf cc g e off n ag bnd s1 K eq).Ok->igLt s.nx g=true->e.lt s.nx=true->(m:Int)<=bnd.ev ρ1->(eq=true->whole cf cc off n=true/\bnd.ev ρ1=(m:Int))->Pst c T G Γ s ρ fun ρ' s'=>∃xs b o cap kd el size C,(K (.v ag xs) s').Ok/\(ρ y).vv=.rsl b o (ρ y).ns.length cap/\G b=some (.cells kd el size C)/\o+(e.ev ρ).toNat*szOf c.P (c.Φ.ty cc)+szOf c.P (c.Φ.ty cc)<=C.length/\(c.Φ.ks cc).length=szOf c.P (c.Φ.ty cc)/\off+n<=(c.Φ.ks cc).length /\
   denL ρ' xs=((((C.drop (o+(e.ev ρ).toNat*szOf c.P (c.Φ.ty cc))).take (szOf c.P (c.Φ.ty cc))).drop off).take n):=fun {ρ1 s1 bnd eq} a1 n1 o1 hp hg' hel hb hbe=>by
  have hle:off+n<=(c.Φ.ks cc).length:=by
   unfold prt at hp
   rw [hΦ] at hp
   cases hc:Nat.ble (off+n) (c.Φ.ks cc).length with
   | false=>rw [hc] at hp; cases hp
   | true=>exact ble_ok hc
  obtain⟨ρ2,s2,a2,n2,o2,xs,g1,g2⟩:=prt_ok hΦ hp o1 (J:=(e.ev ρ).toNat) (by rw [LE.agr a1 hel]; exact⟨he,rfl⟩) (by rw [ig_agr a1 hg']; exact q4) hb (fun hq=>by
   obtain⟨w1,w2⟩:=hbe hq
   unfold whole at w1
   rw [hΦ] at w1
   simp only [Bool.and_eq_true] at w1
   obtain⟨w1,w3,w4⟩:=w1
   rw [ig_agr a1 hg']
   exact⟨beq_ok w3,beq_ok w4,w2,q5 w1⟩)
  exact⟨ρ2,s2,a1.trans a2 n1,by omega,o2,xs,b,o,cap,kd,el,size,C,g1,q1,q2,q3,hlen,hle,g2⟩
 unfold lde at h
 rw [hΦ] at h
 cases hu:c.Φ.uni cc with
 | true =>
   rw [hu] at h
   have h:(prt cf cc g e off n ag (.k WU) s K).Ok:=h
   have hgl:igLt s.nx g=true/\e.lt s.nx=true:=by
    have hp:=h
    unfold prt at hp
    cases hc:(Nat.ble (off+n) (cf.Φ.ks cc).length&&(igLt s.nx g&&(ltO s.nx (ghost s.gs g)&&(e.lt s.nx&&(LE.k WU).lt s.nx)))) with
    | false=>rw [hc] at hp; cases hp
    | true=>simp only [Bool.and_eq_true] at hc; exact⟨hc.2.1,hc.2.2.2.1⟩
   have hmw:m=WU:=by
    obtain⟨_,ht⟩:=ht
    generalize (ρ y).vv=vv at ht
    rcases ht with ⟨_,h0⟩ | ⟨h0,hr⟩ | ⟨b',cap',L,size',C',r1,r2,r3,_⟩
    · rw [h0] at hm; simp at hm
    · generalize (ρ y).ns=nn at hr hm
      cases hr with
      | nil=>simp at hm
      | emp _=>simp at hm
      | blk _ hu' _ _=>rw [hu] at hu'; cases hu'
    · obtain⟨_,d2,_⟩:=hk.q.ht.b _ _ r2
      refine d2 hu m ?_
      rw [r3] at hm
      exact List.mem_of_mem_take (List.mem_of_getElem? hm)
   exact fin (Agr.refl _ _) (Nat.le_refl _) hk h hgl.1 hgl.2 (by rw [LE.ev_k,hmw]; exact Int.le_refl _) (fun h=>by cases h)
 | false =>
   rw [hu] at h
   simp only [cond_false] at h
   cases hc:(Nat.blt y s.nx&&(e.lt s.nx&&igLt s.nx g)) with
   | false=>rw [hc] at h; cases h
   | true =>
     rw [hc] at h
     simp only [Bool.and_eq_true] at hc
     obtain⟨hy,hel,hgl⟩:=hc
     have hy:=blt_ok hy
     simp only [cond_true] at h
     have hsum:((ρ y).ns.take ((e.ev ρ).toNat+1)).sum=((ρ y).ns.take (e.ev ρ).toNat).sum+m:=by rw [List.take_add_one,hm]; simp
     have htk:∀(l:List Nat) (k:Nat),(l.take k).sum<=l.sum:=by
      intro l
      induction l with
      | nil=>intro k; simp
      | cons a l ih=>intro k; cases k with
        | zero=>simp
        | succ k=>have:=ih k; simp; omega
     have htot:=htk (ρ y).ns ((e.ev ρ).toNat+1)
     have hwt:∀{ρ1:Rho},Agr s.nx ρ ρ1->(LE.a (.wt y)).ev ρ1=(((ρ y).ns.sum+(ρ y).ns.length:Nat):Int):=fun {ρ1} a1=>by
      rw [LE.ev_a]; show (((ρ1 y).ns.sum+(ρ1 y).ns.length:Nat):Int)=_; rw [a1 y hy]
     have hmm:∀{ρ1:Rho} {k:Nat},ρ1 k=.n m->(LE.a (.n k)).ev ρ1=(m:Int):=fun {ρ1 k} e1=>by rw [LE.ev_a]; show ((ρ1 k).nn:Int)=_; rw [e1]; rfl
     cases hw:pwOf s y e with
     | none =>
       rw [hw] at h
       obtain⟨h1,h2,h3,h4⟩:=fresh_ok h hk (.n m)
       have hok:=h3.addF (e:=((LE.a (.wt y)).sub (.a (.n s.nx))).addc (-1)) (by rw [LE.ev_addc,LE.ev_sub,hwt h2,hmm h4]; omega)
       exact fin h2 (Nat.le_succ _) hok h1 hgl hel (by rw [hmm h4]; exact Int.le_refl _) (fun hq=>⟨hq,hmm h4⟩)
     | some w =>
       rw [hw] at h
       simp only at h
       cases hwl:w.lt s.nx with
       | false=>rw [hwl] at h; cases h
       | true =>
         rw [hwl] at h
         simp only [cond_true] at h
         obtain⟨h1,h2,h3,h4⟩:=fresh_ok h hk (.n m)
         have hpw:=pwOf_ok hw hk.sat
         have hw2:=LE.agr h2 hwl
         have hok:=(h3.addF (e:=((((LE.a (.wt y)).sub w).sub (.a (.n s.nx))).addc (-1))) (by rw [LE.ev_addc,LE.ev_sub,LE.ev_sub,hwt h2,hmm h4,hw2]; omega)).addPw (p:=(y,e.addc 1,(w.add (.a (.n s.nx))).addc 1)) (by
          show 0<=(e.addc 1).ev _/\((((ρ.up s.nx (.n m) y).ns.take ((e.addc 1).ev _).toNat).sum:Nat):Int)+(e.addc 1).ev _=((w.add (.a (.n s.nx))).addc 1).ev _
          rw [LE.ev_addc,LE.agr h2 hel,LE.ev_addc,LE.ev_add,hmm h4,hw2,h2 y hy,show (e.ev ρ+1).toNat=(e.ev ρ).toNat+1 by omega,hsum]
          refine⟨by omega,?_⟩
          omega)
         exact fin h2 (Nat.le_succ _) hok h1 hgl hel (by rw [hmm h4]; exact Int.le_refl _) (fun hq=>⟨hq,hmm h4⟩)
theorem fEl_mem:∀{l:List STF} {y cc o:Nat} {e:LE} {v:SC},fEl l y cc e o=some v->∃e',STF.el y cc e' o v∈l/\∀ρ,e'.ev ρ=e.ev ρ
 | [],_,_,_,_,_,h=>by cases h
 | .el y' c' e' o' v'::l,y,cc,o,e,v,h=>by
   have h:(bif Nat.beq y' y&&(Nat.beq c' cc&&(Nat.beq o' o&&e'.same e)) then some v' else fEl l y cc e o)=some v:=h
   cases hb:(Nat.beq y' y&&(Nat.beq c' cc&&(Nat.beq o' o&&e'.same e))) with
   | true =>
     rw [hb] at h; cases h
     simp only [Bool.and_eq_true] at hb
     have h1:=beq_ok hb.1
     have h2:=beq_ok hb.2.1
     have h3:=beq_ok hb.2.2.1
     subst h1 h2 h3
     exact⟨e',List.mem_cons_self ..,LE.same_ok hb.2.2.2⟩
   | false=>rw [hb] at h; obtain⟨e2,h1,h2⟩:=fEl_mem h; exact⟨e2,List.mem_cons_of_mem _ h1,h2⟩
 | .sl _ _ _::l,_,_,_,_,_,h=>by obtain⟨e2,h1,h2⟩:=fEl_mem (l:=l) h; exact⟨e2,List.mem_cons_of_mem _ h1,h2⟩
 | .pt _ _ _::l,_,_,_,_,_,h=>by obtain⟨e2,h1,h2⟩:=fEl_mem (l:=l) h; exact⟨e2,List.mem_cons_of_mem _ h1,h2⟩
 | .mp _ _ _::l,_,_,_,_,_,h=>by obtain⟨e2,h1,h2⟩:=fEl_mem (l:=l) h; exact⟨e2,List.mem_cons_of_mem _ h1,h2⟩
theorem elL_ok {y cc b o l cap size sz:Nat} {el:TypeId} {C:List AV} {e:LE} (hk:Ok c T G Γ ρ s) (hsz:szOf c.P (c.Φ.ty cc)=sz) (hv:(ρ y).vv=.rsl b o l cap) (hG:G b=some (.cells .raw el size C)):∀{n off:Nat} {xs:List SC},elL s.ty y cc e off n=some xs->xs.length=n/\(∀k,k<n->off+k<sz/\C[o+(e.ev ρ).toNat*sz+(off+k)]?=(denL ρ xs)[k]?)
 | 0,off,xs,h=>by cases h; exact⟨rfl,fun k hk=>absurd hk (by omega)⟩
 | n+1,off,xs,h=>by
   unfold elL at h
   split at h
   · rename_i x xs' h1 h2
     cases h
     obtain⟨i1,i2⟩:=elL_ok hk hsz hv hG h2
     obtain⟨e',m1,m2⟩:=fEl_mem h1
     obtain⟨b',o',l',cap',el',size',C',t1,t2,t3,t4,t5,t6⟩:=hk.ty m1
     have t1:(ρ y).vv=.rsl b' o' l' cap':=t1
     rw [hv] at t1; cases t1
     rw [hG] at t3; cases t3
     rw [hsz] at t5 t6
     have t6:C[o+(e'.ev ρ).toNat*sz+off]?=some (x.den ρ):=t6
     rw [m2 ρ] at t6
     refine⟨by simp [i1],fun k hk=>?_⟩
     cases k with
     | zero=>exact⟨t5,t6⟩
     | succ k =>
       obtain⟨a1,a2⟩:=i2 k (by omega)
       refine⟨by omega,?_⟩
       rw [show off+(k+1)=off+1+k by omega,a2]
       rfl
   · cases h
theorem addEls_nx (s:SS) (y cc:Nat) (e:LE):∀(o:Nat) (xs:List SC),(addEls s y cc e o xs).nx=s.nx
 | _,[]=>rfl
 | o,x::xs=>addEls_nx s y cc e (o+1) xs
theorem addEls_ok {y cc b o l cap size sz:Nat} {el:TypeId} {C:List AV} {e:LE} (hsz:szOf c.P (c.Φ.ty cc)=sz) (hv:(ρ y).vv=.rsl b o l cap) (hG:G b=some (.cells .raw el size C)) (hlt:(e.ev ρ).toNat<l) (hle:o+l*sz<=C.length):∀{xs:List SC} {off:Nat},Ok c T G Γ ρ s->(∀k,k<xs.length->off+k<sz/\C[o+(e.ev ρ).toNat*sz+(off+k)]?=(denL ρ xs)[k]?)->Ok c T G Γ ρ (addEls s y cc e off xs)
 | [],off,hk,_=>hk
 | x::xs,off,hk,h=>by
   refine (addEls_ok hsz hv hG hlt hle hk fun k hkl=>?_).addTy ?_
   · obtain⟨a1,a2⟩:=h (k+1) (by simp; omega)
     refine⟨by omega,?_⟩
     rw [show off+1+k=off+(k+1) by omega,a2]; rfl
   · obtain⟨a1,a2⟩:=h 0 (by simp)
     refine⟨b,o,l,cap,el,size,C,hv,hlt,hG,by rw [hsz]; exact hle,by rw [hsz]; omega,?_⟩
     rw [hsz]
     exact a2
theorem lde2_ok {y cc g:Nat} {e:LE} {off n:Nat} {ag:Bool} {K:SV->SS->R} (hP:cf.P=c.P) (hΦ:cf.Φ=c.Φ) (h:(lde2 cf y e off n ag cc g s K).Ok) (hk:Ok c T G Γ ρ s) (he:0<=e.ev ρ) (hlt:(e.ev ρ).toNat<(ρ y).ns.length) (ht:TOk c.P c.Φ G Γ (.sl (ρ y).vv cc (ig ρ g) (ρ y).ns)) (hfsl:fSl s.ty y=some (cc,g)) :
  Pst c T G Γ s ρ fun ρ' s'=>∃xs b o cap kd el size C,(K (.v ag xs) s').Ok/\(ρ y).vv=.rsl b o (ρ y).ns.length cap/\G b=some (.cells kd el size C)/\o+(e.ev ρ).toNat*szOf c.P (c.Φ.ty cc)+szOf c.P (c.Φ.ty cc)<=C.length/\(c.Φ.ks cc).length=szOf c.P (c.Φ.ty cc)/\off+n<=(c.Φ.ks cc).length /\
   denL ρ' xs=((((C.drop (o+(e.ev ρ).toNat*szOf c.P (c.Φ.ty cc))).take (szOf c.P (c.Φ.ty cc))).drop off).take n):=by
 unfold lde2 at h
 rw [hΦ] at h
 cases hr:(c.Φ.raw cc&&Nat.blt 0 n) with
 | false=>rw [hr] at h; exact lde_ok hP hΦ h hk he hlt ht hfsl
 | true =>
   rw [hr] at h
   simp only [cond_true] at h
   rw [Bool.and_eq_true] at hr
   have hn:=blt_ok hr.2
   -- the block came in
   obtain⟨b,o,cap,el,size,C,v1,v2,v3,v4,v5⟩:∃b o cap el size C,(ρ y).vv=.rsl b o (ρ y).ns.length cap/\G b=some (.cells .raw el size C)/\o+(ρ y).ns.length*szOf c.P (c.Φ.ty cc)<=C.length/\o+(e.ev ρ).toNat*szOf c.P (c.Φ.ty cc)+szOf c.P (c.Φ.ty cc)<=C.length/\(c.Φ.ks cc).length=szOf c.P (c.Φ.ty cc):=by
    obtain⟨_,ht⟩:=ht
    generalize (ρ y).vv=vv at ht
    generalize (ρ y).ns=nn at ht hlt
    have hmul:(e.ev ρ).toNat*szOf c.P (c.Φ.ty cc)+szOf c.P (c.Φ.ty cc)<=nn.length*szOf c.P (c.Φ.ty cc):=by
     have:((e.ev ρ).toNat+1)*szOf c.P (c.Φ.ty cc)<=nn.length*szOf c.P (c.Φ.ty cc):=Nat.mul_le_mul_right _ hlt
     rwa [Nat.succ_mul] at this
    rcases ht with ⟨_,h0⟩ | ⟨_,hr⟩ | ⟨b',cap',L,size',C',r1,r2,r3,_⟩
    · rw [h0] at hlt; simp at hlt
    · cases hr with
      | nil=>simp at hlt
      | emp _=>simp at hlt
      | @blk b o cap size _ el C _ hb hu hl h =>
        have hel:=h _ _ (List.getElem?_eq_getElem hlt)
        refine⟨b,o,cap,el,size,C,rfl,hb,hl,by omega,?_⟩
        cases hel with
        | mk fs hw _ _ _ _ _=>rw [<-(hw 0).len,List.length_take,List.length_drop]; omega
    · have:=(hk.q.ht.b _ _ r2).1.2
      rw [hr.1] at this; cases this
   cases hel:elL s.ty y cc e off n with
   | some xs =>
     rw [hel] at h
     obtain⟨i1,i2⟩:=elL_ok hk rfl v1 v2 hel
     have hle:off+n<=szOf c.P (c.Φ.ty cc):=by have:=(i2 (n-1) (by omega)).1; omega
     refine Pst.here hk ⟨xs,b,o,cap,.raw,el,size,C,h,v1,v2,v4,v5,by rw [v5]; exact hle,?_⟩
     apply List.ext_getElem?
     intro k
     by_cases hkn:k<n
     · rw [<-(i2 k hkn).2,List.getElem?_take_of_lt hkn,List.getElem?_drop,List.getElem?_take_of_lt (by omega),List.getElem?_drop]
     · rw [List.getElem?_eq_none (by simp [denL]; omega),List.getElem?_eq_none (by rw [List.length_take]; omega)]
   | none =>
     rw [hel] at h
     simp only at h
     cases hyl:(Nat.blt y s.nx&&e.lt s.nx) with
     | false=>rw [hyl] at h; cases h
     | true =>
       rw [hyl] at h
       simp only [cond_true] at h
       rw [Bool.and_eq_true] at hyl
       obtain⟨ρ',s',a,n',o',xs,b2,o2,cap2,kd2,el2,size2,C2,k1,k2,k3,k4,k5,k6,k7⟩:=lde_ok hP hΦ h hk he hlt ht hfsl
       rw [v1] at k2; cases k2
       rw [v2] at k3; cases k3
       have k1:(K (.v ag xs) (addEls s' y cc e off xs)).Ok:=k1
       have hy2:=a y (blt_ok hyl.1)
       have he2:e.ev ρ'=e.ev ρ:=LE.agr a hyl.2
       have hxl:xs.length=n:=by
        have:=congrArg List.length k7
        rw [List.length_take,List.length_drop,List.length_take,List.length_drop] at this
        simp only [denL,List.length_map] at this
        omega
       refine⟨ρ',addEls s' y cc e off xs,a,by rw [addEls_nx]; exact n',addEls_ok (b:=b) (o:=o) (l:=(ρ y).ns.length) (cap:=cap) (size:=size) (el:=el) (C:=C) rfl (by rw [hy2]; exact v1) v2 (by rw [he2]; exact hlt) v3 o' fun k hkl=>?_,xs,b,o,cap,.raw,el,size,C,k1,v1,v2,k4,k5,k6,k7⟩
       rw [hxl] at hkl
       refine⟨by omega,?_⟩
       rw [he2,k7,List.getElem?_take_of_lt hkl,List.getElem?_drop,List.getElem?_take_of_lt (by omega),List.getElem?_drop]
theorem denL_take (ρ:Rho) (cs:List SC) (o n:Nat):denL ρ ((cs.drop o).take n)=((denL ρ cs).drop o).take n:=by simp [denL]
theorem part1 {C:List AV} {p n:Nat} {xs:List SC} (h:denL ρ xs=(C.drop p).take n) (hn:n=1) (hp:p<C.length):∃x,xs=[x]/\C[p]?=some (x.den ρ):=by
 subst hn
 have e1:(C.drop p).take 1=[C[p]]:=by rw [List.drop_eq_getElem_cons hp,List.take_succ_cons,List.take_zero]
 rw [e1] at h
 cases xs with
 | nil=>cases h
 | cons x xs =>
   have h:x.den ρ::denL ρ xs=[C[p]]:=h
   rw [List.cons.injEq] at h
   have hnil:xs=[]:=by cases xs with | nil=>rfl | cons _ _=>cases h.2
   subst hnil
   exact⟨x,rfl,by rw [List.getElem?_eq_getElem hp,h.1]⟩
theorem sc_ne (x:SC) (ρ:Rho):x.den ρ≠undefA:=by
 have key:∀v:AV,isRefA v=true->v≠undefA:=fun v h e=>by subst e; cases h
 cases x with
 | ref x=>exact key _ (U.vv_ref _)
 | elp x i sz o =>
   refine key _ ?_
   show isRefA (elpA _ _)=true
   unfold elpA
   split<;>rfl
 | ptp x o =>
   refine key _ ?_
   show isRefA (ptpA _ _)=true
   unfold ptpA
   split<;>rfl
 | _=>exact fun h=>by cases h
theorem denL_ne (xs:List SC) (ρ:Rho):undefA ∉ denL ρ xs:=fun h=>by
 obtain⟨x,_,e⟩:=List.mem_map.1 h
 exact sc_ne x ρ e
theorem ldo_ok {t:TypeId} {x:Nat} {v:SV} {K:SV->SS->R} (ho:(opAt ops i).op=.load t (.tmp x)) (hg:(opAt ops i).guard=none) (hP:cf.P=c.P) (hΦ:cf.Φ=c.Φ) (h:(ldo cf t v s K).Ok) (hk:Ok c T G Γ ρ s) (hx:T.at x=v.den ρ):Lo c T G Γ ops i s ρ K:=by
 -- an object's part
 have obj:∀{y o cc g n:Nat} {ag:Bool},fPt s.ty y=some (cc,g)->T.at x=ptpA (ρ y).vv o->(prt cf cc g (.k 0) o n ag (.k WU) s K).Ok->c.Φ.uni cc=true->(ag=true/\aggT c.P t=true/\n=szOf c.P t)∨(ag=false/\aggT c.P t=false/\knownT c.P t=true/\n=1)->Lo c T G Γ ops i s ρ K:=fun {y o cc g n ag} hp hxp h hu hc=>by
  obtain⟨b,L,m,size,C,q1,q2,q3,q4,q5,q6,q7⟩:=(hk.ty (fPt_mem hp)).deref hk.q.ht
  have hmw:m=WU:=(hk.q.ht.b _ _ q2).2.1 hu m (List.mem_of_getElem? q3)
  have hle:o+n<=(c.Φ.ks cc).length:=by
   have hp:=h
   unfold prt at hp
   rw [hΦ] at hp
   cases hc:Nat.ble (o+n) (c.Φ.ks cc).length with
   | false=>rw [hc] at hp; cases hp
   | true=>exact ble_ok hc
  have hlen:(c.Φ.ks cc).length=szOf c.P (c.Φ.ty cc):=by
   obtain⟨fs,w1,_⟩:=q7
   rw [<-w1.len,List.length_take]; omega
  have hq1:(ρ y).vv=.rpt b 0:=q1
  rw [hq1] at hxp
  have hxp:T.at x=.rpt b (0+o):=hxp
  refine (prt_ok hΦ h hk (J:=0) (by rw [LE.ev_k]; exact⟨Int.le_refl _,rfl⟩) q7 (by rw [LE.ev_k,hmw]; exact Int.le_refl _)).mono fun ρ2 s2 a2 n2 o2 hh=>?_
  obtain⟨xs,g1,g2⟩:=hh
  have e1:((C.take (szOf c.P (c.Φ.ty cc))).drop o).take n=(C.drop (0+o)).take n:=by
   rw [List.drop_take,List.take_take,Nat.min_eq_left (by omega),Nat.zero_add]
  rw [e1] at g2
  rcases hc with ⟨rfl,h1,rfl⟩ | ⟨rfl,h1,h2,h3⟩
  · exact⟨_,g1,by
     show LVG _ _ _ _ _ _ _ _ _ (.agg (denL ρ2 xs))
     rw [g2]
     exact LVG.loadA hg ho hxp h1 rfl q4 (by omega) rfl⟩
  · obtain⟨u,rfl,hu⟩:=part1 g2 h3 (by omega)
    exact⟨_,g1,LVG.loadO hg ho hxp h2 h1 q4 hu⟩
 unfold ldo at h
 rw [hP,hΦ] at h
 split at h
 · rename_i b o
   cases hl:locAt s.os b with
   | none=>rw [hl] at h; cases h
   | some p =>
     obtain⟨el,cs⟩:=p
     rw [hl] at h
     simp only at h
     have hG:=hk.loc hl
     have hx:T.at x=.rpt (ρ b).nn o:=hx
     have hcl:(denL ρ cs).length=cs.length:=by simp [denL]
     cases ha:aggT c.P t with
     | true =>
       rw [ha] at h
       cases hb:Nat.ble (o+szOf c.P t) cs.length with
       | false=>rw [hb] at h; cases h
       | true =>
         rw [hb] at h
         refine Lo.here hk h ?_
         show LVG _ _ _ _ _ _ _ _ _ (.agg (denL ρ _))
         rw [denL_take]
         exact LVG.loadA hg ho hx ha rfl hG (by rw [hcl]; exact ble_ok hb) rfl
     | false =>
       rw [ha] at h
       cases hkn:knownT c.P t with
       | false=>rw [hkn] at h; cases h
       | true =>
         rw [hkn] at h
         simp only [cond_true,cond_false] at h
         cases hc:cs[o]? with
         | none=>rw [hc] at h; cases h
         | some u =>
           rw [hc] at h
           exact Lo.here hk h (LVG.loadO hg ho hx hkn ha hG (by simp [denL,hc]; rfl))
 · rename_i y e sz o
   cases hf:fSl s.ty y with
   | none=>rw [hf] at h; cases h
   | some p =>
     obtain⟨cc,g⟩:=p
     rw [hf] at h
     simp only at h
     cases hc:(inS s y e&&Nat.beq sz (szOf c.P (c.Φ.ty cc))) with
     | false=>rw [hc] at h; cases h
     | true =>
       rw [hc] at h
       simp only [cond_true] at h
       rw [Bool.and_eq_true] at hc
       obtain⟨cc',g',b0,o0,cp0,r1,r2,r3,r4,r5⟩:=inS_ok hc.1 hk
       rw [hf] at r1
       simp only [Option.some.injEq,Prod.mk.injEq] at r1
       obtain⟨rfl,rfl⟩:=r1
       have hsz:=beq_ok hc.2
       subst hsz
       have fin:∀{n:Nat} {ag:Bool},(lde2 cf y e o n ag cc g s K).Ok->(ag=true/\aggT c.P t=true/\n=szOf c.P t)∨(ag=false/\aggT c.P t=false/\knownT c.P t=true/\n=1)->Lo c T G Γ ops i s ρ K:=fun {n ag} h hcs=>by
        refine (lde2_ok hP hΦ h hk r3 r4 r5 hf).mono fun ρ2 s2 a2 n2 o2 hh=>?_
        obtain⟨xs,b,o',cap,kd,el,size,C,g1,g2,g3,g4,g5,g6,g7⟩:=hh
        have hx:T.at x=.rpt b (o'+((e.ev ρ).toNat*szOf c.P (c.Φ.ty cc)+o)):=hx.trans (elp_rpt g2)
        have e1:(((C.drop (o'+(e.ev ρ).toNat*szOf c.P (c.Φ.ty cc))).take (szOf c.P (c.Φ.ty cc))).drop o).take n=(C.drop (o'+((e.ev ρ).toNat*szOf c.P (c.Φ.ty cc)+o))).take n:=by
         rw [List.drop_take,List.take_take,List.drop_drop,Nat.min_eq_left (by omega),Nat.add_assoc]
        rw [e1] at g7
        rcases hcs with ⟨rfl,h1,rfl⟩ | ⟨rfl,h1,h2,h3⟩
        · exact⟨_,g1,by
           show LVG _ _ _ _ _ _ _ _ _ (.agg (denL ρ2 xs))
           rw [g7]
           exact LVG.loadA hg ho hx h1 rfl g3 (by omega) rfl (fun _=>by rw [<-g7]; exact denL_ne xs ρ2)⟩
        · obtain⟨u,rfl,hu⟩:=part1 g7 h3 (by omega)
          exact⟨_,g1,LVG.loadO hg ho hx h2 h1 g3 hu (fun _=>sc_ne u ρ2)⟩
       cases ha:aggT c.P t with
       | true=>rw [ha] at h; exact fin h (.inl ⟨rfl,ha,rfl⟩)
       | false =>
         rw [ha] at h
         cases hkn:knownT c.P t with
         | false=>rw [hkn] at h; cases h
         | true=>rw [hkn] at h; exact fin h (.inr ⟨rfl,ha,hkn,rfl⟩)
 · rename_i y
   cases hf:fPt s.ty y with
   | none=>rw [hf] at h; cases h
   | some p =>
     obtain⟨cc,g⟩:=p
     rw [hf] at h
     simp only at h
     have hx:T.at x=ptpA (ρ y).vv 0:=hx.trans (by obtain⟨b,hb⟩:=ptFrm hk hf; show (ρ y).vv=_; rw [hb]; rfl)
     cases hu:c.Φ.uni cc with
     | false=>rw [hu] at h; cases h
     | true =>
       rw [hu] at h
       cases ha:aggT c.P t with
       | true=>rw [ha] at h; exact obj hf hx h hu (.inl ⟨rfl,ha,rfl⟩)
       | false =>
         rw [ha] at h
         cases hkn:knownT c.P t with
         | false=>rw [hkn] at h; cases h
         | true=>rw [hkn] at h; exact obj hf hx h hu (.inr ⟨rfl,ha,hkn,rfl⟩)
 · rename_i y o
   cases hf:fPt s.ty y with
   | none=>rw [hf] at h; cases h
   | some p =>
     obtain⟨cc,g⟩:=p
     rw [hf] at h
     simp only at h
     cases hu:c.Φ.uni cc with
     | false=>rw [hu] at h; cases h
     | true =>
       rw [hu] at h
       cases ha:aggT c.P t with
       | true=>rw [ha] at h; exact obj hf hx h hu (.inl ⟨rfl,ha,rfl⟩)
       | false =>
         rw [ha] at h
         cases hkn:knownT c.P t with
         | false=>rw [hkn] at h; cases h
         | true=>rw [hkn] at h; exact obj hf hx h hu (.inr ⟨rfl,ha,hkn,rfl⟩)
 · cases h
def leo (cf:Cf) (t:TypeId) (x:SV) (s:SS) (K:SV->SS->R):R:=match cf.P.underlying t,x with
 | some (.slice _),.v false [.nils]=>K (sc (.int .i64 (.k 0))) s
 | some (.slice _),.v false [.ref y]=>(match fSl s.ty y with | some _=>K (sc (.int .i64 (.a (.len y)))) s | none=>.bad 63 s)
 | some .string,.v false [.str y]=>K (sc (.int .i64 (.a (.sl y)))) s
 | some .string,.v false [.strc l _]=>K (sc (.int .i64 (.k l))) s
 | _,_=>.bad 64 s
theorem leo_ok {cl:Call} {t:TypeId} {ats:List TypeId} {x:Operand} {v:SV} {K:SV->SS->R} (ho:(opAt ops i).op=.call cl) (hc:cl.callee=.builtin .len) (hats:cl.argTypes.toList=t::ats) (hxa:cl.args.toList=[x]) (hg:(opAt ops i).guard=none) (hP:cf.P=c.P) (h:(leo cf t v s K).Ok) (hk:Ok c T G Γ ρ s) (hx:EvA c.nt T x (v.den ρ)):Lo c T G Γ ops i s ρ K:=by
 unfold leo at h
 rw [hP] at h
 split at h
 · rename_i e hu
   refine Lo.here hk h ?_
   show LVG _ _ _ _ _ _ _ _ _ (.int .i64 ((LE.k 0).ev ρ))
   rw [LE.ev_k]
   exact LVG.lenE (n:=0) hg ho hc hats hxa hu hx (.inl ⟨rfl,rfl⟩)
 · rename_i e y hu
   cases hf:fSl s.ty y with
   | none=>rw [hf] at h; cases h
   | some p =>
     rw [hf] at h
     refine Lo.here hk h ?_
     show LVG _ _ _ _ _ _ _ _ _ (.int .i64 ((LE.a (.len y)).ev ρ))
     rw [LE.ev_a]
     refine LVG.lenE (n:=(ρ y).ns.length) hg ho hc hats hxa hu hx ?_
     rcases (hk.ty (fSl_mem (c:=p.1) (g:=p.2) hf)).form with ⟨h1,h2⟩ | ⟨b,o,cp,h1⟩
     · have h2:(ρ y).ns=[]:=h2
       exact .inl ⟨h1,by rw [h2]; rfl⟩
     · exact .inr ⟨b,o,cp,h1⟩
 · rename_i y hu
   refine Lo.here hk h ?_
   show LVG _ _ _ _ _ _ _ _ _ (.int .i64 ((LE.a (.sl y)).ev ρ))
   rw [LE.ev_a]
   exact LVG.lenStr hg ho hc hats hxa hu hx
 · rename_i l m hu
   refine Lo.here hk h ?_
   show LVG _ _ _ _ _ _ _ _ _ (.int .i64 ((LE.k l).ev ρ))
   rw [LE.ev_k]
   exact LVG.lenStr hg ho hc hats hxa hu hx
 · cases h
end
end Go.Rd
