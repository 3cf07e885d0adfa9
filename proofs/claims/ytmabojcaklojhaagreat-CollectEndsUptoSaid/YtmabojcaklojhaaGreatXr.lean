/- Part Xr of the proof of CollectEnds: no condition. -/
import Derived.Test.YtmabojcaklojhaaGreatRows
import Derived.Test.YtmabojcaklojhaaGreatXde
set_option linter.unusedSimpArgs false
set_option linter.unusedVariables false
namespace Go.Rd
open Go.aI Go.RowKit Go.Rt Go.Proofs
open Go.Proofs.YtmabojcaklojhaaGreat (Rows.uptoBulk Rows.uptoBulkAll)
noncomputable def J4 (a:Addr):Nat:=Classical.choose (vP a)
theorem MP (a:Addr):pS a.block (J4 a) 0 0=a:=Classical.choose_spec (vP a)
noncomputable def fC:Value->AV
 |.bool b=>.bool b
 |.int k n=>.int k n
 |.float k b=>.float k b
 |.string s=>.str s.data.toList.length (xe s.data.toList)
 |.slice none 0 0=>.ab
 |.slice (some a) l c=>if l=0/\c=0 then .cN a.block (J4 a) 0 0 else if a.spot=none then .cN a.block a.off l c else aE
 |_=>aE
theorem MQ {b o l c:Nat}(h:¬(l=0/\c=0)):fC (.slice (some ⟨b,o,none⟩) l c)=.cN b o l c:=by
 show (if l=0/\c=0 then AV.cN b (J4 ⟨b,o,none⟩) 0 0 else if (⟨b,o,none⟩:Addr).spot=none then AV.cN b o l c else aE)=_;rw[if_neg h,if_pos rfl]
theorem J5 (a:Addr):fC (.slice (some a) 0 0)=.cN a.block (J4 a) 0 0:=by
 show (if 0=0/\0=0 then AV.cN a.block (J4 a) 0 0 else if a.spot=none then AV.cN a.block a.off 0 0 else aE)=_;rw[if_pos ⟨rfl,rfl⟩]
theorem MR (v:Value):nf (fC v):=by
 unfold fC;split
 ·exact lX _
 ·exact fun _ _=>by simp[ak]
 ·exact qy _ _
 ·exact iZ _ _
 ·exact lY
 ·split
  ·exact ja _ _ _ _
  ·split
   ·exact ja _ _ _ _
   ·exact qz
 ·exact qz
theorem jP (ι:En)(v:Value)(h:fC v≠aE):ak ι (fC v)=v:=by
 unfold fC at h ⊢;split at h
 ·simp[ak]
 ·simp[ak]
 ·simp[ak]
 ·simp only[ak];rw[mZ]
 ·simp[ak]
 ·rename_i a l c;by_cases h0:l=0/\c=0
  ·obtain⟨rfl,rfl⟩:=h0;rw[if_pos ⟨rfl,rfl⟩];simp only[ak];rw[MP]
  ·rw[if_neg h0]at h ⊢;by_cases hs:a.spot=none
   ·rw[if_pos hs];simp only[ak];rw[mY h0];obtain⟨b,o,s⟩:=a;cases hs;rfl
   ·rw[if_neg hs]at h;exact absurd rfl h
 ·exact absurd rfl h
noncomputable def pG (W:World):GH:=fun b=>match W.heap[b]? with
 |some (.cells A t _)=>some (.cells .raw t A.size (A.toList.map fC))
 |_=>none
theorem MS (B:Nat->Prop)(W:World):AD B (pG W) W:=fun b g h=>by
 unfold pG at h;split at h
 ·rename_i A t fz he;cases h;refine⟨fun v hv=>?_,A,fz,he,rfl,by simp,fun i hi hu ι=>?_,fun hk=>absurd rfl hk⟩
  ·obtain⟨x,_,rfl⟩:=List.mem_map.1 hv;exact MR x
  ·have hu:=hu rfl;rw[zcs,zcn]at hu ⊢;cases hx:A[i]? with
   |none=>rfl
   |some x =>
    rw[hx]at hu;have:fC x≠aE:=fun e=>hu (congrArg some e);simp only[zbk];rw[jP ι x this]
 ·cases h
inductive FK where|int (k:IntKind)|str|bool|oz (k:FloatKind)|sl (e:TypeId)
def yW (P:Program)(r:TypeId->Option (List FK)):Nat->List Field->Option (List FK)
 |_,[]=>some []
 |pos,f::l=>bif Nat.beq f.offset pos then (match r f.type,yW P r (pos+ae P f.type) l with
  |some x,some y=>bif Nat.beq x.length (ae P f.type)then some (x++y)else none
  |_,_=>none)else none
def jT (P:Program):Nat->TypeId->Option (List FK)
 |0,_=>none
 |d+1,t=>match P.underlying t with
  |some (.int k)=>some [.int k]
  |some .string=>some [.str]
  |some .bool=>some [.bool]
  |some (.float k)=>some [.oz k]
  |some (.slice e)=>some [.sl e]
  |some (.struct fs)=>(match yW P (jT P d) 0 fs.toList with|some x=>bif Nat.beq x.length (ae P t)then some x else none|none=>none)
  |_=>none
def u9 (Φ:Forms)(okC:Nat->Bool):K2->FK->Bool
 |.int k,.int k'=>decide (k=k')
 |.str,.str=>true
 |.vx b,.str=>Nat.ble 1048576 b
 |.bool,.bool=>true
 |.oz k,.oz k'=>decide (k=k')
 |.sl c,.sl e=>Nat.beq (Φ.ty c) e&&okC c
 |_,_=>false
def kP (Φ:Forms)(okC:Nat->Bool):List K2->List FK->Bool
 | [],[]=>true
 |k::ks,x::l=>u9 Φ okC k x&&kP Φ okC ks l
 |_,_=>false
theorem va {Φ:Forms}{okC:Nat->Bool}:∀{x y:List FK}{ks:List K2},kP Φ okC ks (x++y)=true->∃k1 k2,ks=k1++k2/\kP Φ okC k1 x=true/\kP Φ okC k2 y=true
 | [],y,ks,h=>⟨[],ks,rfl,rfl,h⟩
 |a::x,y,[],h=>by cases h
 |a::x,y,k::ks,h=>by
  have h:(u9 Φ okC k a&&kP Φ okC ks (x++y))=true:=h;rw[za]at h;obtain⟨k1,k2,rfl,h1,h2⟩:=va h.2;exact⟨k::k1,k2,rfl,by show (u9 Φ okC k a&&kP Φ okC k1 x)=true;rw[h.1,h1];rfl,h2⟩
theorem tB {Φ:Forms}{okC:Nat->Bool}:∀{x:List FK}{ks:List K2},kP Φ okC ks x=true->ks.length=x.length
 | [],[],_=>rfl
 | [],_::_,h=>by cases h
 |_::_,[],h=>by cases h
 |a::x,k::ks,h=>by
  have h:(u9 Φ okC k a&&kP Φ okC ks x)=true:=h;rw[za]at h;simp[tB h.2]
theorem nL {Φ:Forms}{okC:Nat->Bool}{x:FK}{ks:List K2}(h:kP Φ okC ks [x]=true):∃k,ks=[k]/\u9 Φ okC k x=true:=by
 cases ks with
 |nil=>cases h
 |cons k ks =>
  have h:(u9 Φ okC k x&&kP Φ okC ks [])=true:=h;rw[za]at h;cases ks with
  |nil=>exact⟨k,rfl,h.1⟩
  |cons a l=>cases h.2
structure jQ (P:Program) (Φ:Forms) (G:GH) (ks:List K2) (cs:List AV) (fs:List TF):Prop where
 w:∀j,ia Φ Gd.d0 0 j ks cs fs
 g0:∀v c' g' ns,.sl v c' g' ns∈fs->g'=0
 yX:∀v c' g' ns,.sl v c' g' ns∈fs->ns.length<=jB
 raw:∀v c' g' ns,.sl v c' g' ns∈fs->lq P Φ G v c' ns
 no:∀v c' g',.pt v c' g'∉fs/\.mp v c' g'∉fs
section
variable {P:Program}{Φ:Forms}{G:GH}
theorem jQ.nil:jQ P Φ G [] [] []:=⟨fun _=>⟨rfl,rfl⟩,fun _ _ _ _ h=>(by cases h),fun _ _ _ _ h=>(by cases h),fun _ _ _ _ h=>(by cases h),fun _ _ _=>⟨fun h=>(by cases h),fun h=>(by cases h)⟩⟩
theorem jQ.app {ks ks':List K2}{cs cs':List AV}{fs fs':List TF}(h:jQ P Φ G ks cs fs)(h':jQ P Φ G ks' cs' fs'):jQ P Φ G (ks++ks') (cs++cs') (fs++fs') :=
 ⟨fun j=>(h.w j).join (h'.w j),fun v c g ns hm=>(List.mem_append.1 hm).elim (h.g0 v c g ns) (h'.g0 v c g ns),fun v c g ns hm=>(List.mem_append.1 hm).elim (h.yX v c g ns) (h'.yX v c g ns),
  fun v c g ns hm=>(List.mem_append.1 hm).elim (h.raw v c g ns) (h'.raw v c g ns),fun v c g=>⟨fun hm=>(List.mem_append.1 hm).elim (h.no v c g).1 (h'.no v c g).1,fun hm=>(List.mem_append.1 hm).elim (h.no v c g).2 (h'.no v c g).2⟩⟩
theorem jQ.one {k:K2}{v:AV}(h:∀j,Kv Φ Gd.d0 0 j k v []):jQ P Φ G [k] [v] [] :=
 ⟨fun j=>⟨v,[],[],[],rfl,rfl,h j,rfl,rfl⟩,fun _ _ _ _ h=>(by cases h),fun _ _ _ _ h=>(by cases h),fun _ _ _ _ h=>(by cases h),fun _ _ _=>⟨fun h=>(by cases h),fun h=>(by cases h)⟩⟩
theorem Qt (Φ:Forms)(c:Nat):gi Φ Gd.d0 0 c=0:=by unfold gi;cases Φ.via c<;>cases Φ.dep c<;>rfl
theorem jQ.sl {c:Nat}{v:AV}{ns:List Nat}(hl:ns.length<=jB)(h:lq P Φ G v c ns):jQ P Φ G [.sl c] [v] [.sl v c 0 ns]:=by
 refine⟨fun j=>⟨v,[],[.sl v c 0 ns],[],rfl,rfl,⟨ns,by rw[Qt]⟩,rfl,rfl⟩,fun v' c' g' ns' hm=>?_,fun v' c' g' ns' hm=>?_,fun v' c' g' ns' hm=>?_,fun v' c' g'=>⟨fun hm=>?_,fun hm=>?_⟩⟩
 all_goals (have hm:=List.mem_singleton.1 hm;cases hm)
 ·rfl
 ·exact hl
 ·exact h
end
theorem Fo {α β:Type}{f:α->Option β}:∀{xs:List α}{ys:List β},xs.mapM f=some ys->ys.length=xs.length/\∀(i:Nat)(x:α),xs[i]?=some x->∃y,ys[i]?=some y/\f x=some y
 | [],ys,h=>by
   have:ys=[]:=by simpa using h.symm
   subst this;exact⟨rfl,fun i x hx=>by simp at hx⟩
 |a::xs,ys,h=>by
  rw[zea]at h;cases ha:f a with
  |none=>rw[ha]at h;cases h
  |some b =>
   rw[ha]at h;cases hr:xs.mapM f with
   |none=>rw[hr]at h;cases h
   |some bs =>
    rw[hr]at h;cases h;obtain⟨h1,h2⟩:=Fo hr;refine⟨by simp[h1],fun i x hx=>?_⟩;cases i with
    |zero=>simp at hx;subst hx;exact⟨b,rfl,ha⟩
    |succ i=>exact h2 i x (by simpa using hx)
theorem pH {β:Type}{f:Nat->Option β}{n:Nat}{ys:List β}(h:(List.range n).mapM f=some ys):ys.length=n/\∀i,i<n->∃y,ys[i]?=some y/\f i=some y:=by
 obtain⟨h1,h2⟩:=Fo h;rw[List.length_range]at h1;exact⟨h1,fun i hi=>h2 i i (by rw[zem hi])⟩
theorem vb {W:World}{a:Addr}{n:Nat}{cs:List Value}(hn:0<n)(h:W.cells? 0 a n=some cs):a.spot=none/\∃A t fz,W.heap[a.block]?=some (.cells A t fz)/\a.off+n<=A.size/\cs=(A.toList.drop a.off).take n:=by
 unfold World.cells? at h;rw[if_pos (zbl _)]at h;obtain⟨h1,h2⟩:=pH h;obtain⟨b,o,s⟩:=a;obtain⟨y0,g1,g2⟩:=h2 0 hn;have g2:W.cell? ⟨b,o,s⟩=some y0:=g2;unfold World.cell? at g2;split at g2
 ·rename_i A t fz hA;cases s with
  |some x=>simp at g2
  |none =>
   have key:∀i,i<n->∃y,cs[i]?=some y/\A[o+i]?=some y:=fun i hi=>by
    obtain⟨y,e1,e2⟩:=h2 i hi;refine⟨y,e1,?_⟩;rw[gx]at e2;unfold World.cell? at e2;have hA:W.heap[b]?=some (.cells A t fz):=hA;rw[show (⟨b,o+i,none⟩:Addr).block=b from rfl,hA]at e2;simpa using e2
   have hsz:o+n<=A.size:=by
    obtain⟨y,_,e⟩:=key (n-1) (by omega);have:=(Array.getElem?_eq_some_iff.1 e).1;omega
   refine⟨rfl,A,t,fz,hA,hsz,?_⟩;apply zdh;intro i;by_cases hi:i<n
   ·obtain⟨y,e1,e2⟩:=key i hi;rw[e1,zbd hi,zbb,zcn,e2]
   ·rw[zbr (by omega),zbr (by rw[zaf];omega)]
 ·cases g2
theorem sG {H:Type}:∀l:List (DataW H),Rows.uptoBulkAll l=(l.map Rows.uptoBulk).sum
 | []=>by simp[Rows.uptoBulkAll]
 |d::l=>by simp[Rows.uptoBulkAll,sG l]
theorem xc:∀{l1 l2:List Nat},l1.length=l2.length->(∀(i a b:Nat),l1[i]?=some a->l2[i]?=some b->a+1<=b)->l1.sum+l1.length<=l2.sum
 | [],[],_,_=>by simp
 | [],_::_,h,_=>by simp at h
 |_::_,[],h,_=>by simp at h
 |a::l1,b::l2,h,hs=>by
  have h0:=hs 0 a b rfl rfl;have:=xc (l1:=l1) (l2:=l2) (by simpa using h) (fun i a b h1 h2=>hs (i+1) a b (by simpa using h1) (by simpa using h2));simp only[zd,zbi];omega
theorem BC {H:Type}{d:DataW H}:∀{l:List (DataW H)},d∈l->Rows.uptoBulk d<=Rows.uptoBulkAll l
 | [],h=>by cases h
 |x::l,h=>by
  simp only[Rows.uptoBulkAll];rcases List.mem_cons.1 h with rfl|h
  ·omega
  ·have:=BC h;omega
section
variable {P:Program}{Φ:Forms}{okC:Nat->Bool}{W:World}{H:Type}{enc:TypeId×Value->H}
def Ob (P:Program)(Φ:Forms)(okC:Nat->Bool)(W:World){H:Type}(enc:TypeId×Value->H)(fuel:Nat):Prop :=
 ∀(t:TypeId) (cs:List Value) (d:DataW H) (ps:List MemPlace),DataW.trod enc P W 0 (fun _=>true) true fuel t cs=some (d,ps)->Rows.uptoBulk d<=1048576->∀(dp:Nat) (fk:List FK) (ks:List K2),jT P dp t=some fk->kP Φ okC ks fk=true ->
  cs.length=fk.length/\∃fs,jQ P Φ (pG W) ks (cs.map fC) fs/\iO Φ fs+1<=Rows.uptoBulk d
theorem vc {fuel:Nat}(ih:Ob P Φ okC W enc fuel){dp:Nat}{cs:List Value}:∀{l:List Field}{pos:Nat}{fk:List FK}{ks:List K2}{xs:List (DataW H×List MemPlace)},yW P (jT P dp) pos l=some fk->kP Φ okC ks fk=true ->
  l.mapM (fun f=>DataW.trod enc P W 0 (fun _=>true) true fuel f.type ((cs.drop f.offset).take (P.cellsOf f.type)))=some xs->Rows.uptoBulkAll (xs.map (·.1))<=1048576 ->
  ∃fs,jQ P Φ (pG W) ks (((cs.drop pos).take fk.length).map fC) fs/\iO Φ fs<=Rows.uptoBulkAll (xs.map (·.1))
 | [],pos,fk,ks,xs,h,hf,hm,hb=>by
   cases h;cases ks with
   |cons=>cases hf
   |nil=>exact⟨[],by simpa using jQ.nil,by simp[iO]⟩
 |f::l,pos,fk,ks,xs,h,hf,hm,hb=>by
  have h:(bif Nat.beq f.offset pos then (match jT P dp f.type,yW P (jT P dp) (pos+ae P f.type) l with
   |some x,some y=>bif Nat.beq x.length (ae P f.type)then some (x++y)else none
   |_,_=>none)else none)=some fk:=h
  cases ho:Nat.beq f.offset pos with
  |false=>rw[ho]at h;cases h
  |true =>
   rw[ho]at h;have ho:=zab ho;simp only[cond_true]at h;split at h
   ·rename_i x y hx hy;cases hl:Nat.beq x.length (ae P f.type)with
    |false=>rw[hl]at h;cases h
    |true =>
     rw[hl]at h;have hl:=zab hl;cases h;rw[zea]at hm;cases h1:DataW.trod enc P W 0 (fun _=>true) true fuel f.type ((cs.drop f.offset).take (P.cellsOf f.type))with
     |none=>rw[h1]at hm;cases hm
     |some dv =>
      rw[h1]at hm;cases h2:l.mapM (fun f=>DataW.trod enc P W 0 (fun _=>true) true fuel f.type ((cs.drop f.offset).take (P.cellsOf f.type)))with
      |none=>rw[h2]at hm;cases hm
      |some xs' =>
       rw[h2]at hm;cases hm;simp only[zal,Rows.uptoBulkAll]at hb ⊢;obtain⟨k1,k2,rfl,g1,g2⟩:=va hf;obtain⟨e1,fs1,r1,w1⟩:=ih _ _ _ _ h1 (by omega) _ _ _ hx g1;obtain⟨fs2,r2,w2⟩:=vc ih hy g2 h2 (by omega);refine⟨fs1++fs2,?_,by rw[iE];omega⟩
       have e2:(cs.drop pos).take (x++y).length=(cs.drop f.offset).take (P.cellsOf f.type)++(cs.drop (pos+ae P f.type)).take y.length:=by
        rw[zak,List.take_add,zcq,ho,hl];rfl
       rw[e2,zat];exact r1.app r2
   ·cases h
theorem xd (kM:∀c,okC c=true->(Φ.gv c=false/\Φ.fr c=false)/\∃d fk,jT P d (Φ.ty c)=some fk/\kP Φ okC (Φ.ks c) fk=true/\fk.length=ae P (Φ.ty c)/\0<fk.length):∀fuel,Ob P Φ okC W enc fuel
 |0=>fun t cs d ps h=>by cases h
 |fuel+1=>fun t cs d ps h hb dp fk ks hfl hfit=>by
  have ih:=xd kM fuel;cases dp with
  |zero=>cases hfl
  |succ dp =>
   unfold jT at hfl;split at hfl
   ·rename_i k hu;cases hfl;obtain⟨k2,rfl,hk⟩:=nL hfit;cases k2<;>try (simp[u9]at hk;done)
    rename_i k2;have hk:k2=k:=of_decide_eq_true hk;subst hk;rcases cs with _|⟨v,_|⟨v2,r⟩⟩<;>try (simp[DataW.trod,hu]at h;done)
    cases v<;>try (simp[DataW.trod,hu]at h;done)
    simp[DataW.trod,hu]at h;obtain⟨⟨rfl,_⟩,rfl,_⟩:=h;exact⟨rfl,[],jQ.one fun j=>⟨⟨_,rfl⟩,rfl⟩,by simp[iO,Rows.uptoBulk]⟩
   ·rename_i hu;cases hfl;obtain⟨k2,rfl,hk⟩:=nL hfit;rcases cs with _|⟨v,_|⟨v2,r⟩⟩<;>try (simp[DataW.trod,hu]at h;done)
    cases v<;>try (simp[DataW.trod,hu]at h;done)
    rename_i sv;simp[DataW.trod,hu]at h;obtain⟨hm,rfl,_⟩:=h;simp only[Rows.uptoBulk]at hb;have hl:sv.data.toList.length<=1048575:=by omega
    refine⟨rfl,[],?_,by simp[iO,Rows.uptoBulk]⟩;cases k2<;>try (simp[u9]at hk;done)
    ·exact jQ.one fun j=>⟨⟨_,_,rfl,zam hl (by decide)⟩,rfl⟩
    ·rename_i b;have hk:=zcu hk;exact jQ.one fun j=>⟨⟨_,_,rfl,zam hl (by decide),by omega⟩,rfl⟩
   ·rename_i hu;cases hfl;obtain⟨k2,rfl,hk⟩:=nL hfit;cases k2<;>try (simp[u9]at hk;done)
    rcases cs with _|⟨v,_|⟨v2,r⟩⟩<;>try (simp[DataW.trod,hu]at h;done)
    cases v<;>try (simp[DataW.trod,hu]at h;done)
    simp[DataW.trod,hu]at h;obtain⟨rfl,_⟩:=h;exact⟨rfl,[],jQ.one fun j=>⟨⟨_,rfl⟩,rfl⟩,by simp[iO,Rows.uptoBulk]⟩
   ·rename_i k hu;cases hfl;obtain⟨k2,rfl,hk⟩:=nL hfit;cases k2<;>try (simp[u9]at hk;done)
    rename_i k2;have hk:k2=k:=of_decide_eq_true hk;subst hk;rcases cs with _|⟨v,_|⟨v2,r⟩⟩<;>try (simp[DataW.trod,hu]at h;done)
    cases v<;>try (simp[DataW.trod,hu]at h;done)
    simp[DataW.trod,hu]at h;obtain⟨⟨rfl,_⟩,rfl,_⟩:=h;exact⟨rfl,[],jQ.one fun j=>⟨⟨_,rfl⟩,rfl⟩,by simp[iO,Rows.uptoBulk]⟩
   ·rename_i e hu;cases hfl;obtain⟨k2,rfl,hk⟩:=nL hfit;cases k2<;>try (simp[u9]at hk;done)
    rename_i c;have hk:(Nat.beq (Φ.ty c) e&&okC c)=true:=hk;rw[za]at hk;obtain⟨hty,hok⟩:=hk;have hty:=zab hty;subst hty;obtain⟨⟨hun,hfr⟩,d0,fk0,hf1,hf2,hf3,hf4⟩:=kM c hok;rcases cs with _|⟨v,_|⟨v2,r⟩⟩<;>try (simp[DataW.trod,hu]at h;done)
    cases v<;>try (simp[DataW.trod,hu]at h;done)
    rename_i base len cap;cases base with
    |none =>
     cases len<;>cases cap<;>try (simp[DataW.trod,hu]at h;done)
     simp[DataW.trod,hu]at h;obtain⟨rfl,_⟩:=h;exact⟨rfl,_,jQ.sl (c:=c) (v:=.ab) (ns:=[]) (zbl _) .nil,by simp[iO,sw,hfr,Rows.uptoBulk]⟩
    |some a =>
     let elemAt:Nat->Option (DataW H×List MemPlace):=fun i=>(W.cells? 0 (a.add (i*P.cellsOf (Φ.ty c))) (P.cellsOf (Φ.ty c))).bind (DataW.trod enc P W 0 (fun _=>true) true fuel (Φ.ty c))
     have h:(if 0<=a.block/\len<=cap/\cap<=maxLen then
      ((List.range len).mapM elemAt).bind fun elems=>((List.range (cap-len)).mapM fun j=>elemAt (len+j)).map fun rest =>
        (DataW.slice (elems.map (·.1)) (rest.map (·.1)),MemPlace.row a ((elems.length+rest.length)*P.cellsOf (Φ.ty c))++(elems++rest).flatMap (·.2))else none)=some (d,ps):=by
      simpa only[DataW.trod,hu,if_true] using h
     split at h
     ·rename_i hc;cases hel:(List.range len).mapM elemAt with
      |none=>rw[hel]at h;cases h
      |some elems =>
       rw[hel]at h;cases hre:(List.range (cap-len)).mapM fun j=>elemAt (len+j)with
       |none=>simp only[zcb]at h;rw[hre]at h;cases h
       |some rest =>
        simp only[zcb]at h;rw[hre]at h;cases h;simp only[Rows.uptoBulk]at hb;obtain⟨n1,n2⟩:=pH hel;obtain⟨n3,n4⟩:=pH hre;have hsz:0<ae P (Φ.ty c):=by omega
        have some1:∀i y,elemAt i=some y->∃cs',W.cells? 0 (a.add (i*ae P (Φ.ty c))) (ae P (Φ.ty c))=some cs'/\DataW.trod enc P W 0 (fun _=>true) true fuel (Φ.ty c) cs'=some y:=fun i y hy=>Option.bind_eq_some_iff.1 hy
        have main:∃ns:List Nat,lq P Φ (pG W) (fC (.slice (some a) len cap)) c ns/\ns.sum+ns.length<=Rows.uptoBulkAll (elems.map (·.1)):=by
         by_cases h0:len=0/\cap=0
         ·obtain⟨rfl,rfl⟩:=h0;refine⟨[],?_,by simp⟩;rw[J5];exact .emp hun
         ·have hspot:a.spot=none:=by
            by_cases hl0:len=0
            ·obtain⟨y,_,hy⟩:=n4 0 (by omega);obtain⟨cs',q1,_⟩:=some1 _ _ hy;rw[hl0,zbw]at q1;exact (vb hsz q1).1
            ·obtain⟨y,_,hy⟩:=n2 0 (by omega);obtain⟨cs',q1,_⟩:=some1 _ _ hy;rw[zbw]at q1;exact (vb hsz q1).1
          obtain⟨b,o,s⟩:=a;cases hspot;rw[MQ h0];by_cases hl0:len=0
          ·subst hl0;exact⟨[],.emp hun,by simp⟩
          ·have add0:∀i,(⟨b,o,none⟩:Addr).add (i*ae P (Φ.ty c))=⟨b,o+i*ae P (Φ.ty c),none⟩:=fun i=>gx _ _ _
           have el:∀i,i<len->∃y A ty fz,elems[i]?=some y/\W.heap[b]?=some (.cells A ty fz)/\o+i*ae P (Φ.ty c)+ae P (Φ.ty c)<=A.size/\DataW.trod enc P W 0 (fun _=>true) true fuel (Φ.ty c) ((A.toList.drop (o+i*ae P (Φ.ty c))).take (ae P (Φ.ty c)))=some y:=fun i hi=>by
            obtain⟨y,e1,hy⟩:=n2 i hi;obtain⟨cs',q1,q2⟩:=some1 _ _ hy;rw[add0]at q1;obtain⟨_,A,ty,fz,g1,g2,g3⟩:=vb hsz q1;exact⟨y,A,ty,fz,e1,g1,g2,by rw[<-g3];exact q2⟩
           obtain⟨y0,A,ty,fz,_,hA,_,_⟩:=el 0 (by omega);have hG:pG W b=some (.cells .raw ty A.size (A.toList.map fC)):=by unfold pG;rw[hA]
           have each:∀i,∃fs,i<len->jQ P Φ (pG W) (Φ.ks c) (((A.toList.map fC).drop (o+i*ae P (Φ.ty c))).take (ae P (Φ.ty c))) fs/\∀y,elems[i]?=some y->iO Φ fs+1<=Rows.uptoBulk y.1:=fun i=>by
            by_cases hi:i<len
            ·obtain⟨y,A',ty',fz',e1,e2,e3,e4⟩:=el i hi;rw[hA]at e2;cases e2;have hby:Rows.uptoBulk y.1<=Rows.uptoBulkAll (elems.map (·.1)):=BC (List.mem_map.2 ⟨y,zba e1,rfl⟩);obtain⟨_,fs,r1,r2⟩:=ih _ _ _ _ e4 (by omega) _ _ _ hf1 hf2;rw[List.map_take,List.map_drop]at r1;exact⟨fs,fun _=>⟨r1,fun y' hy'=>by rw[e1]at hy';cases hy';exact r2⟩⟩
            ·exact⟨[],fun h=>absurd h hi⟩
           obtain⟨F,hF⟩:=Classical.axiomOfChoice each;have hlen:((List.range len).map fun i=>iO Φ (F i)).length=len:=by simp
           refine⟨(List.range len).map fun i=>iO Φ (F i),?_,?_⟩
           ·have:=lq.aS (P:=P) (Φ:=Φ) (G:=pG W) (b:=b) (o:=o) (cap:=cap) (size:=A.size) (c:=c) (el:=ty) (C:=A.toList.map fC) (ns:=(List.range len).map fun i=>iO Φ (F i)) hG hun (by
              rw[hlen,zcw,zdj];obtain⟨y,A',ty',fz',e1,e2,e3,e4⟩:=el (len-1) (by omega);rw[hA]at e2;cases e2;have:(len-1)*ae P (Φ.ty c)+ae P (Φ.ty c)=len*ae P (Φ.ty c):=by rw[<-zax];congr 1;omega
              omega) (fun j m hj=>by
              have hjl:j<len:=by
               have:=(List.getElem?_eq_some_iff.1 hj).1;rw[hlen]at this;exact this
              rw[zcs,zem hjl]at hj;cases hj;obtain⟨r1,_⟩:=hF j hjl
              exact .mk (F j) r1.w rfl r1.g0 r1.yX r1.raw r1.no)
            rw[hlen]at this;exact this
           ·rw[sG];refine xc (by simp[n1]) fun i x y hx hy=>?_
            have hil:i<len:=by
             have:=(List.getElem?_eq_some_iff.1 hx).1;rw[hlen]at this;exact this
            rw[zcs,zem hil]at hx;cases hx;rw[zdx,zcs]at hy;cases hyy:elems[i]? with
            |none=>rw[hyy]at hy;cases hy
            |some z =>
             rw[hyy]at hy;cases hy;exact (hF i hil).2 z hyy
        obtain⟨ns,q1,q2⟩:=main;refine⟨rfl,_,jQ.sl (c:=c) (v:=fC (.slice (some a) len cap)) (ns:=ns) (zam (by omega) (show 1048576<=jB by decide)) q1,?_⟩;simp only[iO,sw,hfr,cond_false,zal,zdy,zd,List.sum_nil,Rows.uptoBulk];omega
     ·cases h
   ·rename_i fl hu;split at hfl
    ·rename_i x hx;cases hl:Nat.beq x.length (ae P t)with
     |false=>rw[hl]at hfl;cases hfl
     |true =>
      rw[hl]at hfl;have hl:=zab hl;cases hfl
      have h:(if cs.length=P.cellsOf t then (fl.toList.mapM fun f=>DataW.trod enc P W 0 (fun _=>true) true fuel f.type ((cs.drop f.offset).take (P.cellsOf f.type))).map fun xs=>(DataW.agg (xs.map (·.1)),xs.flatMap (·.2))else none)=some (d,ps):=by
       simpa only[DataW.trod,hu] using h
      split at h
      ·rename_i hc;cases hm:fl.toList.mapM fun f=>DataW.trod enc P W 0 (fun _=>true) true fuel f.type ((cs.drop f.offset).take (P.cellsOf f.type))with
       |none=>rw[hm]at h;cases h
       |some xs =>
        rw[hm]at h;cases h;simp only[Rows.uptoBulk]at hb ⊢;obtain⟨fs,r1,r2⟩:=vc ih hx hfit hm (by omega);have hcl':cs.length=fk.length:=hc.trans hl.symm;rw[zc,zbz (by omega)]at r1;exact⟨hcl',fs,r1,by omega⟩
      ·cases h
    ·cases hfl
   ·cases hfl
end
end Go.Rd
