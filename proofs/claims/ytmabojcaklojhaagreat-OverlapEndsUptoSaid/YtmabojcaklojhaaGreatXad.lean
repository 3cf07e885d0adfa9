/- Part Xad of the proof of OverlapEnds: no condition. -/
import Derived.Test.YtmabojcaklojhaaGreatXac
set_option linter.unusedSimpArgs false
set_option linter.unusedVariables false
namespace Go.aK
open Go.RowKit
section
variable {P:Program}{n0 nt:Nat}{T T2:Tm}{hp H:Tr AO}{nx X:Pz}{G:GH}{ops:Array Oper}{aI:List Nat}{i m d:Nat}{v:AV}{call:bH}
def SG (ops:Array Oper)(aI:List Nat)(nt:Nat):Bool :=
 (List.range ops.size).all fun i =>
  jB (ae ops i)&&(((ae ops i).after.all fun e=>!Region.binds .any e||Nat.blt e.on i)&&((match (ae ops i).dst with|some d=>Nat.blt d nt|none=>true) &&
  ((!aI.contains i||(match (ae ops i).dst with|some d=>!((ae ops i).looksAt ops).contains d&&((List.range ops.size).all fun j=>i==j||!((ae ops j).dst==some d))|none=>false)) &&
   ((List.range ops.size).all fun j=>i==j||(match (ae ops j).dst with
     |some d=>!((ae ops i).looksAt ops).contains d||(if aI.contains j then bit (Region.before ops) i j else !aI.contains i||(bit (Region.before ops) i j||bit (Region.before ops) j i))
     |none=>true)))))
theorem PV (h:SG ops aI nt=true):Lt ops aI nt:=by
 unfold SG at h;rw[zb]at h;have key:∀i,i<ops.size->_:=fun i hi=>h i (List.mem_range.2 hi);simp only[za]at key;refine⟨fun i hl hi=>?_,fun i hi=>(key i hi).1,fun i j d hl hi hj hne hd hd'=>?_,fun i j d hl hi hj hne hd hlk=>?_,fun i h d hl hnl hi hh hd hlk=>?_,fun i hi e he hb=>?_,fun i d hi hd=>?_⟩
 ·obtain⟨k1,k2,k3,k4,k5⟩:=key i hi;refine⟨k1,?_⟩;rw[List.contains_iff_mem.2 hl]at k4;simp only[zd,zcs]at k4;cases hd:(ae ops i).dst with
  |none=>rw[hd]at k4;simp at k4
  |some d =>
   rw[hd]at k4;simp only[za,zam]at k4;exact⟨d,rfl,fun hc=>by rw[List.contains_iff_mem.2 hc]at k4;exact absurd k4.1 (by decide)⟩
 ·obtain⟨k1,k2,k3,k4,k5⟩:=key i hi;rw[List.contains_iff_mem.2 hl]at k4;simp only[zd,zcs,hd,za,zb]at k4;have:=k4.2 j (List.mem_range.2 hj);rw[hd']at this;simp[hne]at this
 ·obtain⟨k1,k2,k3,k4,k5⟩:=key i hi;rw[zb]at k5;have:=k5 j (List.mem_range.2 hj);rw[hd]at this;simp only[List.contains_iff_mem.2 hlk,List.contains_iff_mem.2 hl,zd,zcs,if_true]at this;have hx:bit (Region.before ops) i j=true:=by simpa [hne] using this
  exact hx
 ·obtain⟨k1,k2,k3,k4,k5⟩:=key i hi;rw[zb]at k5;have:=k5 h (List.mem_range.2 hh);have hne:i≠h:=fun e=>hnl (e▸hl)
  have hc:aI.contains h=false:=by
   cases hx:aI.contains h with
   |false=>rfl
   |true=>exact absurd (List.contains_iff_mem.1 hx) hnl
  rw[hd]at this;simp only[List.contains_iff_mem.2 hlk,List.contains_iff_mem.2 hl,hc,zd,zcs,zaf,if_false]at this;simp[hne]at this;exact this
 ·obtain⟨k1,k2,k3,k4,k5⟩:=key i hi;have:=Array.all_eq_true'.1 k2 e he;rw[hb]at this;exact ax (by simpa using this)
 ·obtain⟨k1,k2,k3,k4,k5⟩:=key i hi;rw[hd]at k3;exact ax k3
theorem wq {B:Nat->Prop}{w0 w:World}{ι:En}{a:Act}(h:dX n0 B w0 nt T hp nx G ι a w):dX n0 B w0 nt T hp nx G ι a w.drew :=
 ⟨⟨h.1.1,fun ι' hι=>⟨(h.1.2 ι' hι).1,iA (h.1.2 ι' hι).2⟩⟩,fun b g hb=>(h.2.1 b g hb).aU rfl (fun h=>h),h.2.2.1,h.2.2.2⟩
theorem Ci {K:Ex->Tm->Tr AO->Pz->GH->Prop}(hm:P.follows .mixedOrders=true)(f:Nat)(hl:SG ops aI nt=true){id:Nat}(h:JP P n0 nt ops aI f [] [] T hp nx G (K .gE)):fq P n0 nt (.region id ops true) T hp nx G K:=by
 intro B w0 w ι a hs Q hn;refine Kx hm (PV hl) (hs.1.2 ι (ao.refl _ _)).1.size (f:=f) ?_;have:=h B w0 ι a w.drew (wq hs) (Q .normal) fun T' hp' nx' G' ι2 a' w' k1 k4=>hn .gE T' hp' nx' G' ι2 a' w' k1 k4;simpa using this
structure oj (n0:Nat) (G G':GH):Prop where
 new:∀b,(G' b).isSome=true->(G b).isSome=true∨n0<=b
 old:∀b,(G b).isSome=true->(G' b).isSome=true
theorem oj.refl (n0:Nat)(G:GH):oj n0 G G:=⟨fun b h=>.inl h,fun b h=>h⟩
theorem oj.trans {G1 G2 G3:GH}(h:oj n0 G1 G2)(h':oj n0 G2 G3):oj n0 G1 G3 :=
 ⟨fun b hb=>(h'.new b hb).elim (h.new b) .inr,fun b hb=>h'.old b (h.old b hb)⟩
def Spec (P:Program)(f:Nat)(args:List AV)(G:GH)(R:AV->GH->Prop):Prop :=
 ∀B w0 w ι (cargs:Array Value),Core B w0 ι .e w->MY B G w->cargs=(aq ι args).toArray ->
  dU P (callFunc f cargs) w fun cv w'=>∃v G',R v G'/\nf v/\cv=ak ι v/\Core B w0 ι .e w'/\MY B G' w'/\(∀b,(G' b).isSome=true->(G b).isSome=true∨w.heap.size<=b)/\∀b,(G b).isSome=true->(G' b).isSome=true
theorem Spec.mono {f:Nat}{args:List AV}{R R':AV->GH->Prop}(h:Spec P f args G R)(hr:∀v G',R v G'->R' v G'):Spec P f args G R':=fun B w0 w ι cargs h1 h2 h3 =>
 (h B w0 w ι cargs h1 h2 h3).mono fun cv w' ⟨v,G',g1,g2⟩=>⟨v,G',hr _ _ g1,g2⟩
def uw (hp:Tr AO)(ι:En)(b:Nat):Prop:=∃id o,hp.get id=some o/\own hp o/\ι.aY id=b
theorem ux {B:Nat->Prop}{w0 w w':World}{ι ι':En}(hw:Wf hp nx)(hι:ao nx ι ι')(hc:Core B w0 ι' hp w)(hk:Kept (fun b=>B b∨uw hp ι b) w w'):Core B w0 ι' hp w':=by
 refine⟨hc.below.trans (hk.mono fun k hk=>.inl hk),fun k hk'=>zbj (hc.room k hk') hk.size,fun id o hid=>?_,hc.base,hc.sep,hc.eZ⟩;refine (hc.obj id o hid).aU (fun h=>h) fun ho=>hk.block _ (.inr ⟨id,o,hid,ho,?_⟩);exact ((hι id (hw.lt id o hid)).1).symm
theorem pj.less {B B':Nat->Prop}{w:World}{b:Nat}{g:Gh}(h:pj B w b g)(hB:∀b,B' b->B b):pj B' w b g:=h.aU rfl (hB b)
theorem Spec.MZ {f:Nat}{args:List AV}{R:AV->GH->Prop}(h:Spec P f args G R)(hargs:nW args){B:Nat->Prop}{w0 w:World}{ι:En}{a:Act}(hs:dX n0 B w0 nt T hp nx G ι a w){cargs:Array Value}(hc:cargs=(aq ι args).toArray) :
  dU P (callFunc f cargs) w fun cv w'=>∃v G',R v G'/\nf v/\cv=ak ι v/\dX n0 B w0 nt T hp nx G' ι a w'/\oj n0 G G':=by
 obtain⟨hs1,hg,ho,hn,hb⟩:=hs;have c0:=(hs1.2 ι (ao.refl _ _)).2;have no:∀{id:Pz} {o:AO} {p:Prop},(Tr.e:Tr AO).get id=some o->p:=fun h=>by rw[Tr.gy]at h;cases h
 have ce:Core (fun b=>B b∨uw hp ι b) w ι .e w:=by
  refine⟨Kept.refl _ _,fun k hk=>?_,fun id o h=>no h,fun id o h=>no h,fun id id' o o' _ h=>no h,fun id id' f ep es n el c f' ep' tp' es' n' el' c' _ h=>no h⟩;rcases hk with hk|⟨id,o,hid,hown,rfl⟩
  ·exact c0.room k hk
  ·exact xN hown (c0.obj id o hid)
 have hg':MY (fun b=>B b∨uw hp ι b) G w:=fun b g hb'=>by
  have hno:¬uw hp ι b:=by
   rintro⟨id,o,hid,hown,rfl⟩
   rw[ho id o hid hown]at hb';cases hb'
  exact (hg b g hb').aU rfl fun h=>h.resolve_right hno
 refine (h _ _ w ι cargs ce hg' hc).mono fun cv w' ⟨v,G',g1,g2,g3,g4,g5,g6,g7⟩=>⟨v,G',g1,g2,g3,?_,⟨fun b hb=>(g6 b hb).imp id fun h=>zay hn h,g7⟩⟩;refine⟨⟨hs1.1,fun ι' hι=>⟨(hs1.2 ι' hι).1,ux hs1.1 hι (hs1.2 ι' hι).2 g4.below⟩⟩,fun b g hb'=>(g5 b g hb').less fun b hb=>.inl hb,fun id o hid hown=>?_,zay hn g4.below.size,fun b hlt hnone=>?_⟩
 ·cases hgb:G' (ι.aY id)with
  |none=>rfl
  |some g =>
   rcases g6 _ (by rw[hgb];rfl)with h|h
   ·rw[ho id o hid hown]at h;cases h
   ·exact absurd (xN hown (c0.obj id o hid)) (by omega)
 ·refine hb b hlt ?_;cases hgb:G b with
  |none=>rfl
  |some g =>
   have:=g7 b (by rw[hgb];rfl);rw[hnone]at this;cases this
end
end Go.aK
namespace Go.aK
open Go.RowKit
section
variable {P:Program}{n0 nt:Nat}{T T2:Tm}{hp H:Tr AO}{nx X:Pz}{G:GH}{ops:Array Oper}{aI:List Nat}{i m d:Nat}{v:AV}
def wx (o:Oper):Option (Operand×List Operand):=match o.op with
 |.call c=>match c.callee with|.value f=>some (f,c.args.toList)|_=>none
 |_=>none
end
end Go.aK
namespace Go.aK
open Go.RowKit
section
variable {P:Program}{n0 nt:Nat}{T T2:Tm}{hp H:Tr AO}{nx X:Pz}{G:GH}{ops:Array Oper}{aI:List Nat}{i m d:Nat}{v:AV}
theorem bQ (hg:(ae ops i).guard=none)(h:∀B w0 ι a w,dX n0 B w0 nt T hp nx G ι a w->(execOp a.eval (ae ops i)).run P w=.ok (.value (ak ι v)) w):ba P ops n0 nt i T hp nx G v :=
 fun B w0 ι a w hs=>.inl ⟨by simp[Region.wanted,hg],h B w0 ι a w hs⟩
theorem jI {B:Nat->Prop}{w0 w:World}{ι:En}{a:Act}(hs:dX n0 B w0 nt T hp nx G ι a w)(x:Nat){u:AV}(hx:T.at x=u):a.eval (.tmp x)=ak ι u:=by
 show a.tmps.getD x undef=_;rw[(hs.1.2 ι (ao.refl _ _)).1.val x,hx]
theorem ba.field {t ft:TypeId}{x f off b o:Nat}(hg:(ae ops i).guard=none)(ho:(ae ops i).op=.fieldAddr t (.tmp x) f)(hx:T.at x=.bZ b o)(hf:fj P t f=some (off,ft))(hz:Nat.beq (af P ft) 0=false) :
  ba P ops n0 nt i T hp nx G (.bZ b (o+off)):=by
 refine bQ hg fun B w0 ι a w hs=>?_;obtain⟨fs,fd,h1,h2,h3,h4⟩:=jZ hf;have hz':=qR hz;obtain⟨j,hj⟩:=tQ hz';simp only[execOp,ho];rw[jI hs x hx];simp only[ak,Instr.fieldAt,Sem.run_bind,ay h1,Result.andThen_ok,h2,Instr.sureAddr,Sem.run_pure,fieldPlace];rw[h4,dy hj];simp only[Result.andThen_ok];rw[if_neg hz'];simp only[Sem.run_pure,Result.andThen_ok,gz,h3,zbp]
theorem ba.nil {x b o:Nat}(hg:(ae ops i).guard=none)(ho:(ae ops i).op=.nilCheck (.tmp x))(hx:T.at x=.bZ b o):ba P ops n0 nt i T hp nx G (.bZ b o):=by
 refine bQ hg fun B w0 ι a w hs=>?_;simp only[execOp,ho];rw[jI hs x hx];simp[ak]
theorem iF {B:Nat->Prop}{w0 w:World}{ι:En}{a:Act}{b:Nat}{wr:BK}{el:TypeId}{size:Nat}{C:List AV}(hs:dX n0 B w0 nt T hp nx G ι a w)(hb:G b=some (.cells wr el size C))(o:Nat)(ho:o<C.length)(hu:wr=.raw->C[o]?≠some aG:=by exact fun h=>by cases h) :
  w.cell? ⟨b,o,none⟩=(C[o]?).map (ak ι):=by
 obtain⟨_,A,fz,h1,h2,h3,h4,h5⟩:=hs.2.1 b _ hb;rw[nP h1,h4 o ho hu]
theorem ba.DC {t:TypeId}{x b o:Nat}{wr:BK}{el:TypeId}{size n:Nat}{C l:List AV}(hg:(ae ops i).guard=none)(ho:(ae ops i).op=.load t (.tmp x))(hx:T.at x=.bZ b o)(ht:ec P t=true)(hn:af P t=n)
  (hb:G b=some (.cells wr el size C)) (hle:o+n<=C.length) (hl:(C.drop o).take n=l) (hu:wr=.raw->aG∉l:=by exact fun h=>by cases h):ba P ops n0 nt i T hp nx G (.agg l):=by
 refine bQ hg fun B w0 ι a w hs=>?_;obtain⟨d,hd⟩:=qb ht;have hlen:l.length=n:=by rw[<-hl,zag,zas];omega
 simp only[execOp,ho];rw[jI hs x hx];simp only[ak,Instr.loadAt,Instr.sureAddr,loadVar,Sem.run_bind,Sem.run_pure,Result.andThen_ok,iN hd,ht,if_true,hX hd,hn];rw[run_loadCells (l:=aq ι l) (by rw[aw,hlen]) fun j hj=>?_]
 ·simp
 ·rw[aw]at hj;rw[iF hs hb _ (by omega) (fun hw he=>hu hw (by rw[<-hl];exact zaw (i:=j) (by rw[zbe (by omega),zbb];exact he))),bx,<-hl,zbe (by omega),zbb]
theorem ba.Av {t:TypeId}{x b o:Nat}{wr:BK}{el:TypeId}{size:Nat}{C:List AV}(hg:(ae ops i).guard=none)(ho:(ae ops i).op=.load t (.tmp x))(hx:T.at x=.bZ b o)(hk:cM P t=true)(ht:ec P t=false)
  (hb:G b=some (.cells wr el size C)) (hl:C[o]?=some v) (hu:wr=.raw->v≠aG:=by exact fun h=>by cases h):ba P ops n0 nt i T hp nx G v:=by
 refine bQ hg fun B w0 ι a w hs=>?_;obtain⟨d,hd⟩:=kU hk;have hlt:o<C.length:=(List.getElem?_eq_some_iff.1 hl).1;simp only[execOp,ho];rw[jI hs x hx];simp only[ak,Instr.loadAt,Instr.sureAddr,loadVar,Sem.run_bind,Sem.run_pure,Result.andThen_ok,iN hd,ht,zaf,if_false];rw[gB (v:=ak ι v) (by rw[iF hs hb _ hlt (fun hw he=>hu hw (by rw[hl]at he;exact Option.some.inj he)),hl];rfl)];simp
end
end Go.aK
namespace Go.aK
open Go.RowKit
def fx (G:GH)(b:Nat)(g:Gh):GH:=fun k=>if k=b then some g else G k
theorem aA (G:GH)(b:Nat)(g:Gh):fx G b g b=some g:=by simp[fx]
theorem dH {G:GH}{b k:Nat}{g:Gh}(h:k≠b):fx G b g k=G k:=by simp[fx,h]
section
variable {P:Program}{n0 nt:Nat}{T T2:Tm}{hp H:Tr AO}{nx X:Pz}{G:GH}{ops:Array Oper}{aI:List Nat}{i m d:Nat}{v:AV}
theorem lh {B:Nat->Prop}{w0 w w':World}{ι:En}{a:Act}{b:Nat}{g:Gh}(hs:dX n0 B w0 nt T hp nx G ι a w)(hk:Kept (fun k=>B k∨uw hp ι k) w w')(hoth:∀k g',k≠b->G k=some g'->w'.heap[k]?=w.heap[k]?)
  (hg:pj B w' b g) (hb:∀id o,hp.get id=some o->own hp o->ι.aY id≠b):dX n0 B w0 nt T hp nx (fx G b g) ι a w':=by
 obtain⟨hs1,hg1,ho,hn,hbb⟩:=hs;refine⟨⟨hs1.1,fun ι' hι=>⟨(hs1.2 ι' hι).1,ux hs1.1 hι (hs1.2 ι' hι).2 hk⟩⟩,fun k g' hk'=>?_,fun id o hid hown=>?_,zay hn hk.size,fun k hlt hnone=>?_⟩
 ·by_cases e:k=b
  ·subst e;rw[aA]at hk';cases hk';exact hg
  ·rw[dH e]at hk';exact (hg1 k g' hk').aU (hoth k g' e hk') (fun h=>h)
 ·rw[dH (hb id o hid hown)];exact ho id o hid hown
 ·by_cases e:k=b
  ·subst e;rw[aA]at hnone;cases hnone
  ·rw[dH e]at hnone;exact hbb k hlt hnone
theorem dP {b:Nat}{g:Gh}(h:(G b).isSome=true∨n0<=b):oj n0 G (fx G b g):=by
 refine⟨fun k hk=>?_,fun k hk=>?_⟩
 ·by_cases e:k=b
  ·subst e;exact h
  ·rw[dH e]at hk;exact .inl hk
 ·by_cases e:k=b
  ·subst e;rw[aA];rfl
  ·rw[dH e];exact hk
def Aw (P:Program)(n0 nt:Nat)(T:Tm)(hp:Tr AO)(nx:Pz)(G:GH)(sz m:Nat)(v:AV)(E:List AV):Prop :=
 E.length=m*sz/\nW E/\flat E=true/\∀B w0 ι a w,dX n0 B w0 nt T hp nx G ι a w->(Builtin.lenOf (ak ι v)).run P w=.ok m w/\(Builtin.firstCells sz m (ak ι v)).run P w=.ok (aq ι E).toArray w
theorem eo {B:Nat->Prop}{w0 w:World}{ι:En}{a:Act}{cv:Value}(hs:dX n0 B w0 nt T hp nx G ι a w)(hd:d<nt)(hv:nf v)(hc:cv=ak ι v):dX n0 B w0 nt (T.put d v) hp nx G ι (a.put (some d) cv) w :=
 ⟨⟨hs.1.1,fun ι' hι=>⟨kX (hs.1.2 ι' hι).1 hd (by rw[hc];exact hv _ _),(hs.1.2 ι' hι).2⟩⟩,hs.2⟩
theorem qx {B:Nat->Prop}{w0 w:World}{ι:En}{a:Act}(hs:dX n0 B w0 nt T hp nx G ι a w):∀id o,hp.get id=some o->own hp o->ι.aY id<w.heap.size:=fun id o hid ho=>xN ho ((hs.1.2 ι (ao.refl _ _)).2.obj id o hid)
theorem HH {kd:BK}{B:Nat->Prop}{w0 w:World}{ι:En}{a:Act}{A:Array Value}{el:TypeId}{C:List AV}(hs:dX n0 B w0 nt T hp nx G ι a w)(hC:nW C)(hle:C.length<=A.size)(hA:∀i,i<C.length->A[i]?=(C[i]?).map (ak ι)) :
  dX n0 B w0 nt T hp nx (fx G w.heap.size (.cells kd el A.size C)) ι a (w.drew.alloc (.cells A el (0,0)))/\n0<=w.heap.size/\G w.heap.size=none:=by
 have c0:=(hs.1.2 ι (ao.refl _ _)).2
 have hroom:∀k,(B k∨uw hp ι k)->k<w.heap.size:=fun k hk=>by
  rcases hk with hk|⟨id,o,hid,hown,rfl⟩
  ·exact c0.room k hk
  ·exact qx hs id o hid hown
 refine⟨lh hs ?_ (fun k g' hne hk=>?_) ?_ (fun id o hid hown e=>?_),hs.2.2.2.1,?_⟩
 ·exact ((Kept.refl _ _).drew).alloc (fun k hk=>hroom k hk) _
 ·exact Below.heap_alloc _ _ _ (hs.2.1 k g' hk).lt
 ·refine⟨hC,A,(0,0),cb w.drew _,rfl,hle,fun i hi _ ι'=>?_,fun _=>⟨fun hb=>absurd (hroom _ (.inl hb)) (by omega),.inl rfl⟩⟩;rw[hA i hi];cases hc:C[i]? with
  |none=>rfl
  |some u=>exact congrArg some (hC u (zaw hc) ι ι')
 ·have:=qx hs id o hid hown;omega
 ·cases hg:G w.heap.size with
  |none=>rfl
  |some g=>exact absurd (hs.2.1 _ _ hg).lt (by omega)
end
end Go.aK
namespace Go.aK
open Go.RowKit
section
variable {P:Program}{n0 nt:Nat}{T T2:Tm}{hp H:Tr AO}{nx X:Pz}{G:GH}{ops:Array Oper}{aI:List Nat}{i m d:Nat}{v:AV}
theorem qy {sz:Nat}(hv:v=.ab):Aw P n0 nt T hp nx G sz 0 v []:=by
 subst hv;exact⟨by simp,gG,rfl,fun B w0 ι a w hs=>⟨by simp[ak,Builtin.lenOf],by simp[ak,aq,Builtin.firstCells]⟩⟩
end
theorem Ax {l:List AV}(h:∀v∈l,sK v=true):flat l=true:=by
 induction l with
 |nil=>rfl
 |cons v l ih =>
  show Bool.rec (motive:=fun _=>Bool) false (flat l) (sK v)=true;rw[h v (by simp),ih fun x hx=>h x (by simp[hx])]
end Go.aK


namespace Go.aK
open Go.RowKit
def a9 (nt:Nat)(T:Tm)(x:Operand)(v:AV):Prop:=∀ι a,ca ι nt T a->a.eval x=ak ι v
theorem PW {nt:Nat}{T:Tm}{x:Nat}{v:AV}(h:T.at x=v):a9 nt T (.tmp x) v:=fun ι a ha=>by
 show a.tmps.getD x undef=_;rw[ha.val x,h]
def vq (C:List AV)(o:Nat)(l:List AV):List AV:=C.take o++l++C.drop (o+l.length)
theorem sq {C l:List AV}{o:Nat}(h:o+l.length<=C.length):(vq C o l).length=C.length:=by
 simp only[vq,zak,zag,zas];omega
theorem HI {C l:List AV}{o:Nat}(h:o+l.length<=C.length)(k:Nat):(vq C o l)[k]?=if o<=k/\k<o+l.length then l[k-o]? else C[k]?:=by
 unfold vq;by_cases h1:k<o
 ·rw[if_neg (by omega),zbd,zat (by rw[zag];omega),zbe h1]
 ·by_cases h2:k<o+l.length
  ·rw[if_pos ⟨by omega,h2⟩,zbd,zax (by rw[zag];omega),zat (by rw[zag];omega),zag,zch (by omega)]
  ·rw[if_neg (by omega),zax (by rw[zak,zag];omega),zbb];congr 1;rw[zak,zag];omega
end Go.aK
namespace Go.aK
open Go.RowKit
section
variable {P:Program}{n0 nt:Nat}{T T2:Tm}{hp H:Tr AO}{nx X:Pz}{G:GH}{ops:Array Oper}{aI:List Nat}{i m d:Nat}{v u:AV}
def HJ (nt:Nat)(T:Tm):List Operand->List AV->Prop
 | [],[]=>True
 |x::xs,v::vs=>a9 nt T x v/\HJ nt T xs vs
 |_,_=>False
theorem HJ.map {ι:En}{a:Act}(ha:ca ι nt T a):∀{xs:List Operand}{vs:List AV},HJ nt T xs vs->xs.map a.eval=aq ι vs
 | [],[],_=>rfl
 |x::xs,v::vs,h=>by
  simp only[zal,aq];rw[h.1 ι a ha,HJ.map ha h.2]
 | [],_::_,h=>h.elim
 |_::_,[],h=>h.elim
end
end Go.aK





namespace Go.aK
open Go.RowKit
def nA (C:List AV)(p:Nat)(l:List AV):List AV:=C.take p++l++C.drop (p+l.length)
theorem ra {C l:List AV}{p:Nat}(h:p<=C.length)(k:Nat):(nA C p l)[k]?=if p<=k/\k<p+l.length then l[k-p]? else C[k]?:=by
 unfold nA;by_cases h1:k<p
 ·rw[if_neg (by omega),zbd,zat (by rw[zag];omega),zbe h1]
 ·by_cases h2:k<p+l.length
  ·rw[if_pos ⟨by omega,h2⟩,zbd,zax (by rw[zag];omega),zat (by rw[zag];omega),zag,zch (by omega)]
  ·rw[if_neg (by omega),zax (by rw[zak,zag];omega),zbb];congr 1;rw[zak,zag];omega
theorem lZ {C l:List AV}{p:Nat}(h:p<=C.length):(nA C p l).length=max C.length (p+l.length):=by
 simp only[nA,zak,zag,zas];omega
def Ext (G:GH)(v:AV)(el:TypeId)(sz len:Nat)(E:List AV):Prop :=
 (v=.ab/\len=0/\E=[])∨∃b o cap size C,v=.dx b o len cap/\G b=some (.cells .data el size C)/\o+len*sz<=C.length/\(C.drop o).take (len*sz)=E/\o+cap*sz<=size/\len<=cap
def KC (n0:Nat)(G G':GH)(v v':AV)(e:TypeId)(sz len m:Nat)(E L:List AV):Prop :=
 (v'=.ab/\G'=G/\len=0/\m=0/\v=.ab)∨
 (∃b o cap size C,v=.dx b o len cap/\G b=some (.cells .data e size C)/\v'=.dx b o (len+m) cap/\len+m<=cap/\o+cap*sz<=size/\o+len*sz<=C.length/\G'=fx G b (.cells .data e size (nA C (o+len*sz) L)))∨
 (∃b c' size,n0<=b/\G b=none/\v'=.dx b 0 (len+m) c'/\len+m<=c'/\c'*sz<=size/\G'=fx G b (.cells .data e size (E++L)))
end Go.aK
namespace Go.aK
open Go.RowKit
inductive KK where|str|pair|int|fy|kz|yJ
def de:KK->AV->Prop
 |.str,v=>∃l n,v=.str l n
 |.kz,v=>∃l n,v=.str l n/\l<=1099511627776
 |.pair,v=>∃l n l' n',v=.agg [.str l n,.str l' n']
 |.int,v=>∃n,v=.int .i64 n
 |.fy,v=>∃n n',v=.agg [.int .i64 n,.int .i64 n']
 |.yJ,v=>∃l n z b,v=.agg [.str l n,.int .i64 z,.bool b]
def aZ:AV->AV->Bool
 |.str l n,.str l' n'=>aR l n l' n'
 |.agg [.str a b,.str c d],.agg [.str a' b',.str c' d']=>aR a b a' b'&&aR c d c' d'
 |.int _ n,.int _ n'=>n==n'
 |.agg [.int _ a,.int _ b],.agg [.int _ a',.int _ b']=>a==a'&&b==b'
 |.agg [.str a b,.int _ n,.bool p],.agg [.str a' b',.int _ n',.bool p']=>aR a b a' b'&&(n==n'&&p==p')
 |_,_=>false
theorem de.nf {pk:KK}{v:AV}(h:de pk v):nf v:=by
 cases pk with
 |str=>obtain⟨l,n,rfl⟩:=h;exact jG _ _
 |kz=>obtain⟨l,n,rfl,_⟩:=h;exact jG _ _
 |pair=>obtain⟨a,b,c,d,rfl⟩:=h;exact xP (eT (jG _ _) (eT (jG _ _) gG))
 |int=>obtain⟨n,rfl⟩:=h;exact lV _ _
 |fy=>obtain⟨a,b,rfl⟩:=h;exact xP (eT (lV _ _) (eT (lV _ _) gG))
 |yJ=>obtain⟨l,n,z,b,rfl⟩:=h;exact xP (eT (jG _ _) (eT (lV _ _) (eT (jr _) gG)))
structure lj (P:Program) (kt:TypeId) (pk:KK):Prop where
 KD:∃d,P.underlying kt=some d
 eq:∀a b,de pk a->de pk b->vk P 9 kt a b (aZ a b)
 Ay:∀v,de pk v->∀e ι w,(Instr.checkKey e 10000 kt (ak ι v)).run P w=.ok () w
theorem HK {pk:KK}{a b:AV}(ha:de pk a)(hb:de pk b)(h:aZ a b=true):oz a b=true:=by
 cases pk with
 |str=>obtain⟨l,n,rfl⟩:=ha;obtain⟨l',n',rfl⟩:=hb;exact h
 |kz=>obtain⟨l,n,rfl,_⟩:=ha;obtain⟨l',n',rfl,_⟩:=hb;exact h
 |pair =>
  obtain⟨a,b,c,d,rfl⟩:=ha;obtain⟨a',b',c',d',rfl⟩:=hb;have h:(aR a b a' b'&&aR c d c' d')=true:=h;show (aR a b a' b'&&(aR c d c' d'&&true))=true;rw[Bool.and_true];exact h
 |int =>
  obtain⟨n,rfl⟩:=ha;obtain⟨n',rfl⟩:=hb;have h:(n==n')=true:=h;rw[beq_iff_eq]at h;subst h;simp[oz,tB,eM]
 |fy =>
  obtain⟨a,b,rfl⟩:=ha;obtain⟨a',b',rfl⟩:=hb;have h:(a==a'&&b==b')=true:=h;rw[za,beq_iff_eq,beq_iff_eq]at h;obtain⟨rfl,rfl⟩:=h;simp[oz,vF,tB,eM]
 |yJ =>
  obtain⟨a,b,n,p,rfl⟩:=ha;obtain⟨a',b',n',p',rfl⟩:=hb;have h:(aR a b a' b'&&(n==n'&&p==p'))=true:=h;rw[za,za,beq_iff_eq,beq_iff_eq]at h;obtain⟨h1,rfl,rfl⟩:=h;simp[oz,vF,tB,eM,h1]
theorem jJ (l n l' n':Nat):aR l n l' n'=aR l' n' l n:=by
 rw[dZ,dZ];exact Bool.eq_iff_iff.2 ⟨fun h=>by rw[beq_iff_eq]at h ⊢;exact h.symm,fun h=>by rw[beq_iff_eq]at h ⊢;exact h.symm⟩
theorem iG (l n:Nat):aR l n l n=true:=by rw[dZ];simp
theorem iV {l n l' n' l2 n2:Nat}(h:aR l n l' n'=true):aR l n l2 n2=aR l' n' l2 n2:=by
 rw[dZ,beq_iff_eq]at h;rw[dZ,dZ,h]
theorem uy {pk:KK}{a:AV}(ha:de pk a):aZ a a=true:=by
 cases pk with
 |str=>obtain⟨l,n,rfl⟩:=ha;exact iG _ _
 |kz=>obtain⟨l,n,rfl,_⟩:=ha;exact iG _ _
 |pair=>obtain⟨a,b,c,d,rfl⟩:=ha;show (aR a b a b&&aR c d c d)=true;rw[iG,iG];rfl
 |int=>obtain⟨n,rfl⟩:=ha;show (n==n)=true;simp
 |fy=>obtain⟨a,b,rfl⟩:=ha;show (a==a&&b==b)=true;simp
 |yJ=>obtain⟨a,b,n,p,rfl⟩:=ha;show (aR a b a b&&(n==n&&p==p))=true;rw[iG];simp
theorem po {pk:KK}{a b:AV}(ha:de pk a)(hb:de pk b):aZ a b=aZ b a:=by
 cases pk with
 |str=>obtain⟨l,n,rfl⟩:=ha;obtain⟨l',n',rfl⟩:=hb;exact jJ _ _ _ _
 |kz=>obtain⟨l,n,rfl,_⟩:=ha;obtain⟨l',n',rfl,_⟩:=hb;exact jJ _ _ _ _
 |pair =>
  obtain⟨a,b,c,d,rfl⟩:=ha;obtain⟨a',b',c',d',rfl⟩:=hb;show (aR a b a' b'&&aR c d c' d')=(aR a' b' a b&&aR c' d' c d);rw[jJ a,jJ c]
 |int=>obtain⟨n,rfl⟩:=ha;obtain⟨n',rfl⟩:=hb;exact BEq.comm
 |fy=>obtain⟨a,b,rfl⟩:=ha;obtain⟨a',b',rfl⟩:=hb;show (a==a'&&b==b')=(a'==a&&b'==b);rw[BEq.comm (a:=a),BEq.comm (a:=b)]
 |yJ=>obtain⟨a,b,n,p,rfl⟩:=ha;obtain⟨a',b',n',p',rfl⟩:=hb;show (aR a b a' b'&&(n==n'&&p==p'))=(aR a' b' a b&&(n'==n&&p'==p));rw[jJ a,BEq.comm (a:=n),BEq.comm (a:=p)]
theorem j5 {pk:KK}{a b x:AV}(ha:de pk a)(hb:de pk b)(hx:de pk x)(h:aZ a b=true):aZ a x=aZ b x:=by
 cases pk with
 |str=>obtain⟨l,n,rfl⟩:=ha;obtain⟨l',n',rfl⟩:=hb;obtain⟨l2,n2,rfl⟩:=hx;exact iV h
 |kz=>obtain⟨l,n,rfl,_⟩:=ha;obtain⟨l',n',rfl,_⟩:=hb;obtain⟨l2,n2,rfl,_⟩:=hx;exact iV h
 |pair =>
  obtain⟨a,b,c,d,rfl⟩:=ha;obtain⟨a',b',c',d',rfl⟩:=hb;obtain⟨a2,b2,c2,d2,rfl⟩:=hx;have h:(aR a b a' b'&&aR c d c' d')=true:=h;rw[za]at h;show (aR a b a2 b2&&aR c d c2 d2)=(aR a' b' a2 b2&&aR c' d' c2 d2);rw[iV h.1,iV h.2]
 |int =>
  obtain⟨n,rfl⟩:=ha;obtain⟨n',rfl⟩:=hb;obtain⟨n2,rfl⟩:=hx;have h:(n==n')=true:=h;rw[beq_iff_eq]at h;subst h;rfl
 |fy =>
  obtain⟨a,b,rfl⟩:=ha;obtain⟨a',b',rfl⟩:=hb;obtain⟨a2,b2,rfl⟩:=hx;have h:(a==a'&&b==b')=true:=h;rw[za,beq_iff_eq,beq_iff_eq]at h;obtain⟨rfl,rfl⟩:=h;rfl
 |yJ =>
  obtain⟨a,b,n,p,rfl⟩:=ha;obtain⟨a',b',n',p',rfl⟩:=hb;obtain⟨a2,b2,n2,p2,rfl⟩:=hx;have h:(aR a b a' b'&&(n==n'&&p==p'))=true:=h;rw[za,za,beq_iff_eq,beq_iff_eq]at h;obtain⟨h1,rfl,rfl⟩:=h;show (aR a b a2 b2&&(n==n2&&p==p2))=(aR a' b' a2 b2&&(n==n2&&p==p2));rw[iV h1]
def cn (k:AV):List (AV×AV)->Option AV
 | []=>none
 |p::es=>bif aZ k p.1 then some p.2 else cn k es
def cy (k v:AV):List (AV×AV)->List (AV×AV)
 | []=>[(k,v)]
 |p::es=>bif aZ k p.1 then (p.1,v)::es else p::cy k v es
theorem rb {pk:KK}{k v x:AV}(hk:de pk k)(hx:de pk x):∀{es:List (AV×AV)},(∀p∈es,de pk p.1)->cn x (cy k v es)=if aZ x k=true then some v else cn x es
 | [],_=>by
   show (bif aZ x k then some v else none)=_;cases aZ x k<;>rfl
 |p::es,h=>by
  have hp:=h p (zac ..);have ih:=rb hk hx (v:=v) (es:=es) fun q hq=>h q (zaa _ hq)
  have hs:aZ k p.1=true->aZ x k=aZ x p.1:=fun e=>by
   rw[po hx hk,po hx hp];exact j5 hk hp hx e
  cases hkp:aZ k p.1 with
  |true =>
   have e1:cy k v (p::es)=(p.1,v)::es:=by show (bif aZ k p.1 then _ else _)=_;rw[hkp];rfl
   rw[e1,hs hkp];show (bif aZ x p.1 then some v else cn x es)=if aZ x p.1=true then some v else bif aZ x p.1 then some p.2 else cn x es
   cases aZ x p.1<;>rfl
  |false =>
   have e1:cy k v (p::es)=p::cy k v es:=by show (bif aZ k p.1 then _ else _)=_;rw[hkp];rfl
   rw[e1];show (bif aZ x p.1 then some p.2 else cn x (cy k v es))=if aZ x k=true then some v else bif aZ x p.1 then some p.2 else cn x es
   rw[ih];cases hxp:aZ x p.1 with
   |true =>
    have:aZ x k=false:=by
     cases hxk:aZ x k with
     |false=>rfl
     |true =>
      have:=j5 hx hk hp hxk;rw[hxp,hkp]at this;cases this
    rw[this];rfl
   |false=>cases aZ x k<;>rfl
theorem er {pk:KK}{k v:AV}(hk:de pk k):∀{es:List (AV×AV)},(∀p∈es,de pk p.1)->∀p∈cy k v es,de pk p.1
 | [],_,p,h=>by rw[List.mem_singleton.1 h];exact hk
 |q::es,h0,p,h=>by
  have h:p∈(bif aZ k q.1 then (q.1,v)::es else q::cy k v es):=h;cases hq:aZ k q.1 with
  |true =>
   rw[hq]at h;rcases List.mem_cons.1 h with rfl|h
   ·exact h0 q (zac ..)
   ·exact h0 p (zaa _ h)
  |false =>
   rw[hq]at h;rcases List.mem_cons.1 h with rfl|h
   ·exact h0 _ (zac ..)
   ·exact er hk (fun r hr=>h0 r (zaa _ hr)) p h
theorem eU {k v:AV}:∀{es:List (AV×AV)}{p:AV×AV},p∈cy k v es->p.2=v∨p∈es
 | [],p,h=>by rw[List.mem_singleton.1 h];exact .inl rfl
 |q::es,p,h=>by
  have h:p∈(bif aZ k q.1 then (q.1,v)::es else q::cy k v es):=h;cases hq:aZ k q.1 with
  |true =>
   rw[hq]at h;rcases List.mem_cons.1 h with rfl|h
   ·exact .inl rfl
   ·exact .inr (zaa _ h)
  |false =>
   rw[hq]at h;rcases List.mem_cons.1 h with rfl|h
   ·exact .inr (zac ..)
   ·exact (eU h).imp_right (zaa _)
theorem iH {k v:AV}:∀{es:List (AV×AV)},cn k es=some v->∃p∈es,p.2=v
 | [],h=>by cases h
 |p::es,h=>by
  have h:(bif aZ k p.1 then some p.2 else cn k es)=some v:=h;cases hq:aZ k p.1 with
  |true=>rw[hq]at h;exact⟨p,zac ..,Option.some.inj h⟩
  |false =>
   rw[hq]at h;obtain⟨q,h1,h2⟩:=iH h;exact⟨q,zaa _ h1,h2⟩
def sr:List (AV×AV)->List MapEntry->List ME
 |p::es,e::E=>⟨p.1,p.2,e.born⟩::sr es E
 |_,_=>[]
theorem uz:∀{es:List (AV×AV)}{E:List MapEntry}{ι:En},E.map (fun e=>(e.key,e.val))=es.map (fun e=>(ak ι e.1,ak ι e.2))->E=(sr es E).map (dM ι)/\(sr es E).map (fun e=>(e.key,e.val))=es
 | [],[],_,_=>⟨rfl,rfl⟩
 | [],_::_,_,h=>by cases h
 |_::_,[],_,h=>by cases h
 |p::es,e::E,ι,h=>by
  rw[zal,zal,List.cons.injEq]at h;obtain⟨h1,h2⟩:=h;obtain⟨i1,i2⟩:=uz h2;rw[Prod.mk.injEq]at h1;refine⟨?_,by show (p.1,p.2)::_=_;rw[i2]⟩;show e::E=dM ι ⟨p.1,p.2,e.born⟩::(sr es E).map (dM ι);rw[<-i1];congr 1;cases e with
  |mk k v b=>simp only[dM]at h1 ⊢;rw[h1.1,h1.2]
theorem pq {P:Program}{kt:TypeId}{pk:KK}{k:AV}(hM:lj P kt pk)(hk:de pk k):∀{es:List ME},(∀e∈es,de pk e.key)->cn k (es.map fun e=>(e.key,e.val))=none->Found P kt k es none
 | [],_,_=>fun e he=>by cases he
 |x::es,h0,h=>by
  have h:(bif aZ k x.key then some x.val else cn k (es.map fun e=>(e.key,e.val)))=none:=h;cases hq:aZ k x.key with
  |true=>rw[hq]at h;cases h
  |false =>
   rw[hq]at h;intro e he;rcases List.mem_cons.1 he with rfl|he
   ·rw[<-hq];exact hM.eq _ _ hk (h0 _ (zac ..))
   ·exact pq hM hk (fun e he=>h0 e (zaa _ he)) h e he
theorem pr {P:Program}{kt:TypeId}{pk:KK}{k v:AV}(hM:lj P kt pk)(hk:de pk k):∀{es:List ME},(∀e∈es,de pk e.key)->cn k (es.map fun e=>(e.key,e.val))=some v ->
  ∃pre e post,es=pre++e::post/\e.val=v/\aZ k e.key=true/\(∀x∈pre,aZ k x.key=false)/\Found P kt k es (some (pre.length,e))
 | [],_,h=>by cases h
 |x::es,h0,h=>by
  have h:(bif aZ k x.key then some x.val else cn k (es.map fun e=>(e.key,e.val)))=some v:=h;cases hq:aZ k x.key with
  |true =>
   rw[hq]at h;exact⟨[],x,es,rfl,Option.some.inj h,hq,(fun _ h=>by cases h),[],es,rfl,rfl,(fun _ h=>by cases h),by rw[<-hq];exact hM.eq _ _ hk (h0 _ (zac ..))⟩
  |false =>
   rw[hq]at h;obtain⟨pre,e,post,h1,h2,h3,h4,pre',post',h5,h6,h7,h8⟩:=pr hM hk (fun e he=>h0 e (zaa _ he)) h;have hn:vk P 9 kt k x.key false:=by rw[<-hq];exact hM.eq _ _ hk (h0 _ (zac ..))
   refine⟨x::pre,e,post,by rw[h1];rfl,h2,h3,fun y hy=>?_,x::pre',post',by rw[h5];rfl,by rw[zbi,zbi,h6],fun y hy=>?_,h8⟩
   ·rcases List.mem_cons.1 hy with rfl|hy
    ·exact hq
    ·exact h4 y hy
   ·rcases List.mem_cons.1 hy with rfl|hy
    ·exact hn
    ·exact h7 y hy
theorem ll {k v:AV}:∀{es:List (AV×AV)},cn k es=none->cy k v es=es++[(k,v)]
 | [],_=>rfl
 |p::es,h=>by
  have h:(bif aZ k p.1 then some p.2 else cn k es)=none:=h;show (bif aZ k p.1 then (p.1,v)::es else p::cy k v es)=_;cases hq:aZ k p.1 with
  |true=>rw[hq]at h;cases h
  |false=>rw[hq]at h;rw[cond_false,ll h];rfl
theorem Az {k v:AV}:∀{pre post:List (AV×AV)}{e:AV×AV},(∀x∈pre,aZ k x.1=false)->aZ k e.1=true->cy k v (pre++e::post)=pre++(e.1,v)::post
 | [],post,e,_,h=>by show (bif aZ k e.1 then _ else _)=_;rw[h];rfl
 |p::pre,post,e,h0,h=>by
  show (bif aZ k p.1 then _ else p::cy k v (pre++e::post))=_;rw[h0 p (zac ..),cond_false,Az (fun x hx=>h0 x (zaa _ hx)) h];rfl
section
variable {P:Program}{n0 nt:Nat}{T T2:Tm}{hp H:Tr AO}{nx X:Pz}{G:GH}{ops:Array Oper}{aI:List Nat}{i m d:Nat}{v u:AV}
theorem ba.lookup {t kt et:TypeId}{ym yk:Operand}{ok:Bool}{pk:KK}{z k:AV}{b:Nat}{es:List (AV×AV)}(hg:(ae ops i).guard=none)(ho:(ae ops i).op=.lookup t ym yk ok)(hu:P.underlying t=some (.map kt et))(hz:zeroOf P et=some z)(hM:lj P kt pk)
  (hm:a9 nt T ym (.cV b)) (hk:a9 nt T yk k) (hkf:de pk k) (hb:G b=some (.map es)) (hes:∀p∈es,de pk p.1) :
  ba P ops n0 nt i T hp nx G (match cn k es with|some v=>(if ok then .cN [v,.bool true]else v)|none=>(if ok then .cN [z,.bool false]else z)):=by
 refine bQ hg fun B w0 ι a w hs=>?_;have hval:=(hs.1.2 ι (ao.refl _ _)).1;obtain⟨_,E,clock,h1,h2,h3,_⟩:=hs.2.1 b _ hb;obtain⟨i1,i2⟩:=uz (h3 ι);obtain⟨dd,hd⟩:=hM.KD;obtain⟨_,zv,_,_,_,hzero⟩:=cG hz
 have hkeys:∀e∈sr es E.toList,de pk e.key:=fun e he=>by
  have:(e.key,e.val)∈(sr es E.toList).map (fun e=>(e.key,e.val)):=List.mem_map.2 ⟨e,he,rfl⟩;rw[i2]at this;exact hes _ this
 simp only[execOp,ho,Sem.run_bind];rw[hm ι a hval,hk ι a hval];cases hf:cn k es with
 |none =>
  have hfind:=fX (ι:=ι) (w:=w) hd (pq hM hkf hkeys (by rw[i2];exact hf));rw[<-i1]at hfind;simp only[ak,Instr.lookup,Sem.run_bind,ay hu,Result.andThen_ok,bO h1,Sem.run_pure,hM.Ay k hkf,hfind,fh,hzero ι];cases ok<;>simp[ak,aq]
 |some v =>
  obtain⟨pre,e,post,e1,e2,e3,e4,hfd⟩:=pr hM hkf hkeys (by rw[i2];exact hf);have hfind:=fX (ι:=ι) (w:=w) hd hfd;rw[<-i1]at hfind;subst e2;simp only[ak,Instr.lookup,Sem.run_bind,ay hu,Result.andThen_ok,bO h1,Sem.run_pure,hM.Ay k hkf,hfind,fh,hzero ι];cases ok<;>simp[ak,aq]
theorem wy {w:World}{b k:Nat}{E:Array MapEntry}{cl:Nat}(h:k≠b):(jD w b E cl).heap[k]?=w.heap[k]?:=by
 show (w.heap.setIfInBounds _ _)[k]?=_;rw[zcf (fun e=>h e.symm)]
theorem uA {α β:Type}{g:α->β}{f:α->α}(h:∀x,g (f x)=g x):∀{l:List α}{i:Nat},(l.modify i f).map g=l.map g
 | [],i=>by cases i<;>rfl
 |x::l,0=>by show g (f x)::l.map g=g x::l.map g;rw[h]
 |x::l,i+1=>by show g x::(l.modify i f).map g=g x::l.map g;rw[uA h]
theorem nB {k v v0:AV}:∀{es:List (AV×AV)},cn k es=some v0->(cy k v es).length=es.length
 | [],h=>by cases h
 |p::es,h=>by
  have h:(bif aZ k p.1 then some p.2 else cn k es)=some v0:=h;show (bif aZ k p.1 then (p.1,v)::es else p::cy k v es).length=_;cases hq:aZ k p.1 with
  |true=>rfl
  |false=>rw[hq]at h;rw[cond_false,zbi,zbi,nB h]
theorem fI.re {t kt et:TypeId}{ym yk yv:Operand}{pk:KK}{k:AV}{b:Nat}{es:List (AV×AV)}{R:Tm->Tr AO->Pz->GH->Prop}(hg:(ae ops i).guard=none)(hd0:(ae ops i).dst=none)(ho:(ae ops i).op=.mapUpdate t ym yk yv)(hu:P.underlying t=some (.map kt et))(hM:lj P kt pk)
  (hm:a9 nt T ym (.cV b)) (hk:a9 nt T yk k) (hx:a9 nt T yv v) (hkf:de pk k) (hnf:nf v) (hb:G b=some (.map es)) (hes:∀p∈es,de pk p.1)
  (hr:R T hp nx (fx G b (.map (cy k v es)))):fI P n0 nt ops i T hp nx G R:=by
 intro B w0 ι a w hs;refine .inl ⟨by simp[Region.wanted,hg],?_⟩;rw[hd0];have hval:=(hs.1.2 ι (ao.refl _ _)).1;obtain⟨hnB,E,clock,h1,h2,h3,h5,h6⟩:=hs.2.1 b _ hb;obtain⟨i1,i2⟩:=uz (h3 ι);obtain⟨dd,hd⟩:=hM.KD
 have hkeys:∀e∈sr es E.toList,de pk e.key:=fun e he=>by
  have:(e.key,e.val)∈(sr es E.toList).map (fun e=>(e.key,e.val)):=List.mem_map.2 ⟨e,he,rfl⟩;rw[i2]at this;exact hes _ this
 have hnb:∀id ob,hp.get id=some ob->own hp ob->ι.aY id≠b:=fun id ob hid hown e=>by
  have:=hs.2.2.1 id ob hid hown;rw[e,hb]at this;cases this
 have hlt:=(Array.getElem?_eq_some_iff.1 h1).1
 -- what the write leaves
 have done:∀(E':Array MapEntry) (cl':Nat),(execOp a.eval (ae ops i)).run P w=.ok .skip (jD w b E' cl')->E'.toList.map (fun e=>(e.key,e.val))=(cy k v es).map (fun e=>(ak ι e.1,ak ι e.2))->E'.toList.map (fun e=>e.born)=List.range (cy k v es).length->cl'=(cy k v es).length ->
   dU P (execOp a.eval (ae ops i)) w fun cv w'=>∃T' hp' nx' G' ι2,R T' hp' nx' G'/\dX n0 B w0 nt T' hp' nx' G' ι2 (a.put none cv) w':=by
  intro E' cl' hrun hE' hB' hC'
  have hkept:Kept (fun k=>B k∨uw hp ι k) w (jD w b E' cl'):=by
   refine⟨rfl,rfl,rfl,by simp[jD],fun q hq=>wy (fun e=>?_)⟩;subst e;rcases hq with hB|⟨id,ob,hid,hown,e⟩
   ·exact hnB hB
   ·exact hnb id ob hid hown e
  have hnf2:∀e∈cy k v es,nf e.1/\nf e.2:=fun e he=>by
   refine⟨(er hkf hes e he).nf,?_⟩;rcases eU he with h|h
   ·rw[h];exact hnf
   ·exact (h2 e h).2
  have hgh:pj B (jD w b E' cl') b (.map (cy k v es)):=by
   refine⟨hnB,E',cl',?_,hnf2,fun ι'=>?_,hB',hC'⟩
   ·show (w.heap.setIfInBounds _ _)[b]?=_;simp[hlt]
   ·rw[hE'];refine zav fun e he=>?_;rw[(hnf2 e he).1 ι ι',(hnf2 e he).2 ι ι']
  have hsn:=lh (b:=b) (g:=.map (cy k v es)) hs hkept (fun q g' hne _=>wy hne) hgh hnb;exact .inl ⟨undef,_,.inr ⟨hrun,rfl⟩,_,_,_,_,ι,hr,hsn⟩
 cases hf:cn k es with
 |none =>
  have hfind:=fX (ι:=ι) (w:=w) hd (pq hM hkf hkeys (by rw[i2];exact hf));rw[<-i1]at hfind;refine done (E.push ⟨ak ι k,ak ι v,clock⟩) (clock+1) ?_ ?_ (by rw[ll hf,Array.toList_push,zar,h5,zak,List.length_singleton,List.range_succ,h6];rfl) (by rw[ll hf,zak,List.length_singleton,h6])
  ·simp only[execOp,ho,Sem.run_bind];rw[hm ι a hval,hk ι a hval,hx ι a hval];simp only[ak,Instr.mapUpdate,Sem.run_bind,ay hu,Result.andThen_ok,bO h1,hM.Ay k hkf,hfind,fh,fi h1,Sem.run_pure]
  ·rw[ll hf,Array.toList_push,zar,zar,h3 ι];rfl
 |some v0 =>
  obtain⟨pre,e,post,e1,e2,e3,e4,hfd⟩:=pr hM hkf hkeys (by rw[i2];exact hf);have hfind:=fX (ι:=ι) (w:=w) hd hfd;rw[<-i1]at hfind;have hat:=ud hfd
  obtain⟨hb1,hb2⟩:=ub (HK (hkeys e (by rw[e1];simp)) hkf (by
   have:=j5 hkf (hkeys e (by rw[e1];simp)) hkf e3
   rw[uy hkf]at this;exact this.symm)) ι
  refine done (E.modify pre.length fun y=>{ y with key:=ak ι k,val:=ak ι v }) clock ?_ ?_ (by rw[Array.toList_modify];exact (uA (g:=fun e:MapEntry=>e.born) (f:=fun y=>{ y with key:=ak ι k,val:=ak ι v }) fun _=>rfl).trans (by rw[h5,nB hf])) (by rw[nB hf,h6])
  ·simp only[execOp,ho,Sem.run_bind];rw[hm ι a hval,hk ι a hval,hx ι a hval];simp only[ak,Instr.mapUpdate,Sem.run_bind,ay hu,Result.andThen_ok,bO h1,hM.Ay k hkf,hfind,fh,zap,PH i1 hat,zaz,zcb,Instr.keyThatStays];rw[show (dM ι e).key=ak ι e.key from rfl,hb2];simp only[if_true,Sem.run_pure,Result.andThen_ok,fi h1]
  ·rw[qo _ _ _ _ i1,nq ι v _ _ _ e hat hb1.symm];have:es=pre.map (fun e=>(e.key,e.val))++(e.key,e.val)::post.map (fun e=>(e.key,e.val)):=by rw[<-i2,e1];simp
   have hput:cy k v es=pre.map (fun e=>(e.key,e.val))++(e.key,v)::post.map (fun e=>(e.key,e.val)):=by
    rw[this];exact Az (fun x hx=>by obtain⟨y,hy,rfl⟩:=List.mem_map.1 hx;exact e4 y hy) e3
   rw[hput,e1];simp[dM];rfl
end
end Go.aK
namespace Go.aK
open Go.RowKit
section
variable {P:Program}{n0 nt:Nat}{T T2:Tm}{hp H:Tr AO}{nx X:Pz}{G:GH}{ops:Array Oper}{aI:List Nat}{i m d:Nat}{v u:AV}
theorem ba.HL {t:TypeId}{yx yi:Operand}{kd:IntKind}{l n j:Nat}(hg:(ae ops i).guard=none)(ho:(ae ops i).op=.index t yx yi)(hu:P.underlying t=some .string)(hx:a9 nt T yx (.str l n))(hi:a9 nt T yi (.int kd (.ofNat j)))(hlt:j<l) :
  ba P ops n0 nt i T hp nx G (.int .u8 (.ofNat (Nat.mod (Nat.div n (kO (Nat.sub l (j+1)))) 256))):=by
 refine bQ hg fun B w0 ι a w hs=>?_;have ha:=(hs.1.2 ι (ao.refl _ _)).1;simp only[execOp,ho];rw[hx ι a ha,hi ι a ha,eJ,eJ];simp only[ak,Instr.index,asIntOf,Sem.run_bind,Sem.run_pure,Result.andThen_ok,ay hu]
 have hget:(ByteArray.mk (bytesOf l n).toArray)[j]?=some (UInt8.ofNat (n/256 ^ (l-(j+1))%256)):=by
  have:=mX l n j hlt;have hsz:j<(ByteArray.mk (bytesOf l n).toArray).size:=by show j<(bytesOf l n).toArray.size;simp[aB,hlt]
  rw[getElem?_pos _ j hsz];have hsz':j<(bytesOf l n).length:=by rw[aB];exact hlt
  rw[zaj hsz']at this;rw[<-Option.some.inj this];rfl
 rw[if_pos (by omega)];simp only[zcv,hget,Sem.run_pure,Result.andThen_ok];rw[jq];congr 4;simp only[zdl];show n/256 ^ (l-(j+1))%256%2 ^ 8=n/256 ^ (l-(j+1))%256;omega
theorem Cj {x h d0:Nat}{kd:IntKind}(hx:T.at x=.int kd (.ofNat h)):Bd T (some (.tmp x)) d0 h:=.inr ⟨.tmp x,kd,rfl,fun ι nt a ha=>by
 show a.tmps.getD x undef=_
 rw[ha.val x,hx,eJ]⟩
theorem ba.To {t:TypeId}{yx:Operand}{x l n h:Nat}{kd:IntKind}(hg:(ae ops i).guard=none)(ho:(ae ops i).op=.slice t yx none (some (.tmp x)) none)(hu:P.underlying t=some .string)(hx:a9 nt T yx (.str l n))(hh:T.at x=.int kd (.ofNat h))(hle:h<=l) :
  ba P ops n0 nt i T hp nx G (.str h (Nat.div n (kO (Nat.sub l h)))):=by
 refine bQ hg fun B w0 ι a w hs=>?_;have ha:=(hs.1.2 ι (ao.refl _ _)).1;have hsz:(ByteArray.mk (bytesOf l n).toArray).size=l:=by show (bytesOf l n).toArray.size=l;simp[aB]
 have hb:=iC (P:=P) (w:=w) (lo:=none) (hi:=some (.tmp x)) (b:=false) (len:=l) (cap:=l) ha (Cj hh) (.inl ⟨rfl,rfl⟩) (zbo h) hle;simp only[zbu,zaz]at hb;simp only[execOp,ho];rw[hx ι a ha];simp only[ak,zbu,zaz,Instr.sliceAt,Instr.slice,Sem.run_bind,ay hu,Result.andThen_ok,zdk,zaf,if_false,Sem.run_pure];rw[hsz,hb];simp only[Result.andThen_ok,Sem.run_pure,Result.ok.injEq,and_true,Next.value.injEq,Value.string.injEq];apply ByteArray.ext;rw[zeg];apply Array.ext';simp only[Array.toList_extract,jq]
 have e1:bytesOf h (n/256 ^ (l-h))=(bytesOf l n).take h:=by
  have:=lN (l-h) h n;rw[show h+(l-h)=l by omega]at this;exact this
 show _=bytesOf h (n/256 ^ (l-h));rw[e1];simp
theorem ba.Wz {t el:TypeId}{yx:Operand}{x b len cap h:Nat}{kd:IntKind}(hg:(ae ops i).guard=none)(ho:(ae ops i).op=.slice t yx none (some (.tmp x)) none)(hu:P.underlying t=some (.slice el))(hi:(P.info? el).isSome=true)(hx:a9 nt T yx (.dx b 0 len cap))(hh:T.at x=.int kd (.ofNat h))(hle:h<=cap) :
  ba P ops n0 nt i T hp nx G (.dx b 0 h cap):=by
 refine bQ hg fun B w0 ι a w hs=>?_;have ha:=(hs.1.2 ι (ao.refl _ _)).1;obtain⟨k,hk⟩:=Option.isSome_iff_exists.1 hi;have hb:=iC (P:=P) (w:=w) (lo:=none) (hi:=some (.tmp x)) (b:=true) (len:=len) (cap:=cap) ha (Cj hh) (.inl ⟨rfl,rfl⟩) (zbo h) hle;simp only[zbu,zaz]at hb;simp only[execOp,ho];rw[hx ι a ha];simp only[ak,fD,zbu,zaz,Sem.run_bind];rcases lS hu (b:=b) (q:=0) hb with e|e
 ·rw[e];by_cases hc:cap=0
  ·rw[if_pos hc];simp
  ·rw[if_neg hc];simp
 ·rw[e]at hk;cases hk
theorem tb {g:Gh}{y:Obj}{B:Nat->Prop}{w0 w:World}{ι:En}{a:Act}(hs:dX n0 B w0 nt T hp nx G ι a w)(hgh:(∀k,B k->k<w.heap.size)->pj B (w.alloc y) w.heap.size g) :
  dX n0 B w0 nt T hp nx (fx G w.heap.size g) ι a (w.alloc y)/\n0<=w.heap.size/\G w.heap.size=none:=by
 have c0:=(hs.1.2 ι (ao.refl _ _)).2
 have hroom:∀k,(B k∨uw hp ι k)->k<w.heap.size:=fun k hk=>by
  rcases hk with hk|⟨id,o,hid,hown,rfl⟩
  ·exact c0.room k hk
  ·exact qx hs id o hid hown
 refine⟨lh hs ((Kept.refl _ _).alloc (fun k hk=>hroom k hk) _) (fun k g' hne hk=>Below.heap_alloc _ _ _ (hs.2.1 k g' hk).lt) (hgh fun k hk=>hroom k (.inl hk)) (fun id o hid hown e=>?_),hs.2.2.2.1,?_⟩
 ·have:=qx hs id o hid hown;omega
 ·cases hg:G w.heap.size with
  |none=>rfl
  |some g=>exact absurd (hs.2.1 _ _ hg).lt (by omega)
theorem fI.AA {t:TypeId}{R:Tm->Tr AO->Pz->GH->Prop}(hg:(ae ops i).guard=none)(hd:(ae ops i).dst=some d)(hlt:d<nt)(ho:(ae ops i).op=.makeMap t none)
  (hr:∀b,n0<=b->G b=none->R (T.put d (.cV b)) hp nx (fx G b (.map []))):fI P n0 nt ops i T hp nx G R:=by
 intro B w0 ι a w hs;refine .inl ⟨by simp[Region.wanted,hg],?_⟩;rw[hd]
 have hrun:(execOp a.eval (ae ops i)).run P w=.ok (.value (.map (some w.heap.size))) (w.alloc (.map #[] 0)):=by
  simp only[execOp,ho,zbu,Sem.run_bind];rw[show (Instr.makeMap t none).run P w=.ok (.map (some w.heap.size)) (w.alloc (.map #[] 0))from rfl];rfl
 obtain⟨h1,h2,h3⟩:=tb (g:=.map []) (y:=.map #[] 0) hs fun hB=>⟨fun h=>absurd (hB _ h) (by omega),#[],0,cb w _,(fun e h=>by cases h),(fun ι=>rfl),rfl,rfl⟩;exact .inl ⟨_,_,.inl hrun,_,_,_,_,ι,hr _ h2 h3,eo h1 hlt (xO _) (by simp[ak])⟩
end
end Go.aK
namespace Go.aK
open Go.RowKit
section
variable {P:Program}{n0 nt:Nat}{T T2:Tm}{hp H:Tr AO}{nx X:Pz}{G:GH}{ops:Array Oper}{aI:List Nat}{i m d:Nat}{v u:AV}{call:bH}
theorem fI.xS {kd:BK}(hkd:kd≠.raw){t el:TypeId}{x b o size n:Nat}{y:Operand}{C:List AV}{R:Tm->Tr AO->Pz->GH->Prop}(hg:(ae ops i).guard=none)(hd:(ae ops i).dst=none)(ho:(ae ops i).op=.store t (.tmp x) y)(hx:T.at x=.bZ b o)(hy:a9 nt T y u)
  (hi:(P.info? t).isSome=true) (hn:af P t=n) (hl:u.cells.length=n) (hfl:flat u.cells=true) (hnf:nW u.cells) (hb:G b=some (.cells kd el size C)) (hle:o+n<=C.length)
  (hr:R T hp nx (fx G b (.cells kd el size (vq C o u.cells)))):fI P n0 nt ops i T hp nx G R:=by
 intro B w0 ι a w hsat;refine .inl ⟨by simp[Region.wanted,hg],?_⟩;rw[hd];obtain⟨j,hj⟩:=Option.isSome_iff_exists.1 hi;have hval:=(hsat.1.2 ι (ao.refl _ _)).1;obtain⟨hnC,A,fz,h1,h2,h3,h4,h5⟩:=hsat.2.1 b _ hb;obtain⟨hnB,hfz⟩:=h5 hkd
 have hnb:∀id ob,hp.get id=some ob->own hp ob->ι.aY id≠b:=fun id ob hid hown e=>by
  have:=hsat.2.2.1 id ob hid hown;rw[e,hb]at this;cases this
 have hrl:(aq ι u.cells).length=n:=by rw[aw,hl]
 have hcan:lP w b o (aq ι u.cells).length:=by rw[hrl];exact kS h1 (by omega) hfz
 have hrun:(execOp a.eval (ae ops i)).run P w=.ok .skip (bp w b o (aq ι u.cells)):=by
  simp only[execOp,ho];rw[jI hsat x hx,hy ι a hval];simp only[ak,Instr.storeAt,Instr.sureAddr,storeVar,Sem.run_bind,Sem.run_pure,Result.andThen_ok,dy hj];rw[bY,if_neg (by simp[hrl,hn])];rw[hY _ _ _ 0 w (jx ι _ hfl) (by rw[zbt];exact hcan)];simp
 have hk:Kept (fun k=>B k∨uw hp ι k) w (bp w b o (aq ι u.cells)):=eN _ _ _ _ (by
  rintro (hB|⟨id,ob,hid,hown,e⟩)
  ·exact hnB hB
  ·exact hnb id ob hid hown e) (Kept.refl _ _)
 have hgh:pj B (bp w b o (aq ι u.cells)) b (.cells kd el size (vq C o u.cells)):=by
  refine⟨?_,ef A o (aq ι u.cells),fz,c9 _ _ _ _ _ _ _ h1,by rw[bq];exact h2,by rw[sq (by omega)];exact h3,fun k hk' _ ι'=>?_,fun _=>⟨hnB,by rw[bq];exact hfz⟩⟩
  ·exact iE (iE (Ap _ hnC) hnf) (Aq _ hnC)
  ·rw[sq (by omega)]at hk';rw[dF _ _ _ _ (by rw[hrl];omega),HI (by omega),hrl,hl];by_cases hlo:o<=k/\k<o+n
   ·rw[if_pos hlo,if_pos hlo,bx];cases hc':u.cells[k-o]? with
    |none=>rfl
    |some q=>exact congrArg some (hnf q (zaw hc') ι ι')
   ·rw[if_neg hlo,if_neg hlo];exact h4 k hk' (fun h=>absurd h hkd) ι'
 have hsn:=lh (b:=b) (g:=.cells kd el size (vq C o u.cells)) hsat hk (fun k g' hne _=>gS _ _ _ _ _ hne) hgh hnb;exact .inl ⟨undef,_,.inr ⟨hrun,rfl⟩,_,_,_,_,ι,hr,hsn⟩
end
end Go.aK
namespace Go.aK
open Go.RowKit
theorem wz {s:Nat}:∀{l:List MapEntry}{n i:Nat},l.map (fun e=>e.born)=List.range' s n->l.find? (fun e=>e.born==s+i)=l[i]?
 | [],n,i,h=>by simp
 |e::l,0,i,h=>by cases h
 |e::l,n+1,0,h=>by
  rw[zal,zek,List.cons.injEq]at h;rw[List.find?_cons,h.1];simp
 |e::l,n+1,i+1,h=>by
  rw[zal,zek,List.cons.injEq]at h;have hne:(e.born==s+(i+1))=false:=by rw[h.1,beq_eq_false_iff_ne];omega
  rw[List.find?_cons,hne];have:=wz (s:=s+1) (i:=i) h.2;rw[show s+1+i=s+(i+1) by omega]at this;rw[this];rfl
section
variable {P:Program}{n0 nt:Nat}{T T2:Tm}{hp H:Tr AO}{nx X:Pz}{G:GH}{ops:Array Oper}{i d:Nat}{v u:AV}
theorem Ck {ι:En}{E:Array MapEntry}{es:List (AV×AV)}(h:E.toList.map (fun e=>(e.key,e.val))=es.map fun e=>(ak ι e.1,ak ι e.2))(hb:E.toList.map (fun e=>e.born)=List.range es.length){e:MapEntry}(he:e∈E.toList):∃p,es[e.born]?=some p/\e.key=ak ι p.1/\e.val=ak ι p.2/\e.born<es.length:=by
 obtain⟨j,hj,rfl⟩:=List.mem_iff_getElem.1 he;have h1:=congrArg (fun l=>l[j]?) hb;have h2:=congrArg (fun l=>l[j]?) h;simp only[zcd,zaj hj,zaz]at h1 h2;have hlen:E.toList.length=es.length:=by have:=congrArg List.length h;simpa using this
 have hjl:j<es.length:=by omega
 rw[zdc hjl]at h1;have h1:=Option.some.inj h1;rw[h1];rw[zaj hjl,zaz]at h2;have h2:=Option.some.inj h2;rw[Prod.mk.injEq]at h2;exact⟨es[j],zaj hjl,h2.1,h2.2,hjl⟩
theorem lq {x y:Code}{K:Ex->Tm->Tr AO->Pz->GH->Prop}{b:Bool}(h:fq P n0 nt (bif b then x else y) T hp nx G K):fq P n0 nt (.cond (.const (.bool b)) x y) T hp nx G K:=fun B w0 w ι a hs Q hn=>by
 cases b with
 |true=>exact wpIn_cond_true rfl (h B w0 w ι a hs Q hn)
 |false=>exact wpIn_cond_false rfl (h B w0 w ι a hs Q hn)
theorem fI.Cl {t kt et:TypeId}{x:Operand}{b:Nat}{es:List (AV×AV)}{R:Tm->Tr AO->Pz->GH->Prop}(hg:(ae ops i).guard=none)(hd:(ae ops i).dst=some d)(hlt:d<nt)(ho:(ae ops i).op=.range t x)(hu:P.underlying t=some (.map kt et))
  (hx:a9 nt T x (.cV b)) (hb:G b=some (.map es)) (hr:∀k,n0<=k->G k=none->R (T.put d (.bZ k 0)) hp nx (fx G k (.iter (some b) es.length []))):fI P n0 nt ops i T hp nx G R:=by
 intro B w0 ι a w hs;refine .inl ⟨by simp[Region.wanted,hg],?_⟩;rw[hd];have hval:=(hs.1.2 ι (ao.refl _ _)).1;obtain⟨_,E,clock,h1,_,_,_,h6⟩:=hs.2.1 b _ hb
 have hrun:(execOp a.eval (ae ops i)).run P w=.ok (.value (.pointer (some ⟨w.heap.size,0,none⟩))) (w.alloc (.mapIter (some b) es.length #[] es.length)):=by
  simp only[execOp,ho,hx ι a hval,ak,Instr.range,Sem.run_bind,ay hu,Result.andThen_ok,bO h1,Sem.run_pure,h6];rfl
 obtain⟨q1,q2,q3⟩:=tb (g:=.iter (some b) es.length []) (y:=.mapIter (some b) es.length #[] es.length) hs fun hB=>⟨fun h=>absurd (hB _ h) (by omega),cb w _⟩;exact .inl ⟨_,_,.inl hrun,_,_,_,_,ι,hr _ q2 q3,eo q1 hlt (lX _ _) (by simp[ak])⟩
theorem fI.PX {t kt et:TypeId}{x:Operand}{R:Tm->Tr AO->Pz->GH->Prop}(hg:(ae ops i).guard=none)(hd:(ae ops i).dst=some d)(hlt:d<nt)(ho:(ae ops i).op=.range t x)(hu:P.underlying t=some (.map kt et))
  (hx:a9 nt T x .bg) (hr:∀k,n0<=k->G k=none->R (T.put d (.bZ k 0)) hp nx (fx G k (.iter none 0 []))):fI P n0 nt ops i T hp nx G R:=by
 intro B w0 ι a w hs;refine .inl ⟨by simp[Region.wanted,hg],?_⟩;rw[hd];have hval:=(hs.1.2 ι (ao.refl _ _)).1
 have hrun:(execOp a.eval (ae ops i)).run P w=.ok (.value (.pointer (some ⟨w.heap.size,0,none⟩))) (w.alloc (.mapIter none 0 #[] 0)):=by
  simp only[execOp,ho,hx ι a hval,ak,Instr.range,Sem.run_bind,ay hu,Result.andThen_ok,Sem.run_pure];rfl
 obtain⟨q1,q2,q3⟩:=tb (g:=.iter none 0 []) (y:=.mapIter none 0 #[] 0) hs fun hB=>⟨fun h=>absurd (hB _ h) (by omega),cb w _⟩;exact .inl ⟨_,_,.inl hrun,_,_,_,_,ι,hr _ q2 q3,eo q1 hlt (lX _ _) (by simp[ak])⟩
theorem fI.Tp {x:Operand}{b n:Nat}{seen:List Nat}{R:Tm->Tr AO->Pz->GH->Prop}(hg:(ae ops i).guard=none)(hd:(ae ops i).dst=some d)(hlt:d<nt)(ho:(ae ops i).op=.next x false)(hx:a9 nt T x (.bZ b 0))(hi:G b=some (.iter none n seen))
  (hr:R (T.put d (.cN [.bool false])) hp nx G):fI P n0 nt ops i T hp nx G R:=by
 intro B w0 ι a w hs;refine .inl ⟨by simp[Region.wanted,hg],?_⟩;rw[hd];have hval:=(hs.1.2 ι (ao.refl _ _)).1;obtain⟨_,h1⟩:=hs.2.1 b _ hi
 have hrun:(execOp a.eval (ae ops i)).run P w=.ok (.value (.tuple #[.bool false])) w:=by
  simp only[execOp,ho,hx ι a hval,ak,Instr.next,Sem.run_bind,nu h1,Result.andThen_ok,Sem.run_pure]
 exact .inl ⟨_,_,.inl hrun,_,_,_,_,ι,hr,eo hs hlt (uq (eT (jr _) gG)) (by simp[ak,aq])⟩
theorem fI.next {x:Operand}{b m n:Nat}{seen:List Nat}{es:List (AV×AV)}{R:Tm->Tr AO->Pz->GH->Prop}(hg:(ae ops i).guard=none)(hd:(ae ops i).dst=some d)(hlt:d<nt)(ho:(ae ops i).op=.next x false)(hx:a9 nt T x (.bZ b 0))(hi:G b=some (.iter (some m) n seen))(hm:G m=some (.map es))(hn:es.length=n)
  (h0:(∀j,j<n->j∈seen)->R (T.put d (.cN [.bool false])) hp nx G) (hr:∀j p,j∉seen->j<n->es[j]?=some p->R (T.put d (.cN [.bool true,p.1,p.2])) hp nx (fx G b (.iter (some m) n (seen++[j])))):fI P n0 nt ops i T hp nx G R:=by
 intro B w0 ι a w hs;refine .inl ⟨by simp[Region.wanted,hg],?_⟩;rw[hd];have hval:=(hs.1.2 ι (ao.refl _ _)).1;obtain⟨hnB,i1⟩:=hs.2.1 b _ hi;obtain⟨_,E,clock,m1,m2,m3,m4,m5⟩:=hs.2.1 m _ hm;subst hn m5
 have hrun:(execOp a.eval (ae ops i)).run P w=((Instr.next (.pointer (some ⟨b,0,none⟩)) false (ae ops i).type).run P w).andThen fun v w=>.ok (.value v) w:=by
  simp only[execOp,ho,hx ι a hval,ak,Sem.run_bind,Sem.run_pure]
 have hnb:∀id ob,hp.get id=some ob->own hp ob->ι.aY id≠b:=fun id ob hid hown e=>by
  have:=hs.2.2.1 id ob hid hown;rw[e,hi]at this;cases this
 rcases run_next_at (P:=P) w (ae ops i).type b m es.length es.length seen.toArray E es.length i1 m1 (fun x hx=>by
   obtain⟨_,_,_,_,h⟩:=Ck (m3 ι) m4 hx
   exact h) (zad _)with ⟨hleft,hr0⟩|⟨e,he,w1,hw1,hr1⟩
 ·refine .inl ⟨.tuple #[.bool false],w,.inl (by rw[hrun,hr0];rfl),_,_,_,_,ι,h0 fun j hj=>?_,eo hs hlt (uq (eT (jr _) gG)) (by simp[ak,aq])⟩;have hem:leftOf E seen.toArray=#[]:=Array.eq_empty_of_size_eq_zero hleft;unfold leftOf at hem;rw[Array.filter_eq_empty_iff]at hem;have hlen:E.toList.length=es.length:=by have:=congrArg List.length m4;simpa using this
  have hjE:j<E.toList.length:=by omega
  have hb:=congrArg (fun l=>l[j]?) m4;simp only[zcd,zaj hjE,zaz,zdc hj]at hb;have hb:=Option.some.inj hb;have:=hem E.toList[j] (by rw[<-zcx];exact zcp _);rw[hb]at this;simpa using this
 ·unfold leftOf at he;rw[zcx,Array.mem_filter]at he;obtain⟨he1,he2⟩:=he;rw[<-zcx]at he1;obtain⟨p,p1,p2,p3,p4⟩:=Ck (m3 ι) m4 he1;have hns:e.born∉seen:=by simpa using he2
  have hw1h:w1.heap=w.heap:=by rcases hw1 with rfl|rfl<;>rfl
  have hlt2:b<w.heap.size:=(Array.getElem?_eq_some_iff.1 i1).1
  have hoth:∀q,q≠b->(Go.ChangeMaps.setBlock w1 b (.mapIter (some m) es.length (seen.toArray.push e.born) es.length)).heap[q]?=w.heap[q]?:=fun q hq=>by
   show (w1.heap.setIfInBounds _ _)[q]?=_;rw[hw1h,zcf (fun e=>hq e.symm)]
  have hpm:p∈es:=zaw p1
  have hkept:Kept (fun k=>B k∨uw hp ι k) w (Go.ChangeMaps.setBlock w1 b (.mapIter (some m) es.length (seen.toArray.push e.born) es.length)):=by
   refine⟨?_,?_,?_,?_,fun q hq=>hoth q (fun e=>?_)⟩
   ·rcases hw1 with rfl|rfl<;>rfl
   ·rcases hw1 with rfl|rfl<;>rfl
   ·rcases hw1 with rfl|rfl<;>rfl
   ·show w.heap.size<=(w1.heap.setIfInBounds _ _).size;rw[hw1h,zdh];exact zad _
   ·subst e;rcases hq with hB|⟨id,ob,hid,hown,e⟩
    ·exact hnB hB
    ·exact hnb id ob hid hown e
  have hgh:pj B (Go.ChangeMaps.setBlock w1 b (.mapIter (some m) es.length (seen.toArray.push e.born) es.length)) b (.iter (some m) es.length (seen++[e.born])):=by
   refine⟨hnB,?_⟩;show (w1.heap.setIfInBounds _ _)[b]?=_;rw[hw1h];simp[hlt2]
  have hsn:=lh (b:=b) (g:=.iter (some m) es.length (seen++[e.born])) hs hkept (fun q g' hne _=>hoth q hne) hgh hnb;refine .inl ⟨_,_,.inl (by rw[hrun,hr1];rfl),_,_,_,_,ι,hr e.born p hns p4 p1,eo hsn hlt (uq (eT (jr _) (eT (m2 p hpm).1 (eT (m2 p hpm).2 gG)))) ?_⟩;simp[ak,aq,p2,p3]
theorem ba.entry {x:Operand}{b m n j:Nat}{seen:List Nat}{es:List (AV×AV)}{p:AV×AV}(hg:(ae ops i).guard=none)(ho:(ae ops i).op=.entry x)(hx:a9 nt T x (.bZ b 0))(hi:G b=some (.iter (some m) n (seen++[j])))(hm:G m=some (.map es))(hn:es.length=n)(hp0:es[j]?=some p) :
  ba P ops n0 nt i T hp nx G (.cN [p.1,p.2]):=by
 refine bQ hg fun B w0 ι a w hs=>?_;have hval:=(hs.1.2 ι (ao.refl _ _)).1;obtain⟨_,i1⟩:=hs.2.1 b _ hi;obtain⟨_,E,clock,m1,m2,m3,m4,m5⟩:=hs.2.1 m _ hm;subst hn m5;have hj:j<es.length:=(List.getElem?_eq_some_iff.1 hp0).1;have hlen:E.toList.length=es.length:=by have:=congrArg List.length m4;simpa using this
 have hjE:j<E.toList.length:=by omega
 have hf:E.find? (fun x=>x.born==j)=some E.toList[j]:=by
  rw[<-Array.find?_toList];have:=wz (s:=0) (l:=E.toList) (n:=es.length) (i:=j) (by rw[m4,zeq]);rw[zap]at this;rw[this,zaj hjE]
 obtain⟨q,q1,q2,q3,_⟩:=Ck (m3 ι) m4 (zcp hjE);have hb:=congrArg (fun l=>l[j]?) m4;simp only[zcd,zaj hjE,zaz,zdc hj]at hb;have hb:=Option.some.inj hb;rw[hb,hp0]at q1;cases q1;have hbk:(seen++[j]).toArray.back?=some j:=by simp
 simp only[execOp,ho,hx ι a hval,ak,Instr.entry,Sem.run_bind,nu i1,bO m1,Result.andThen_ok,hbk,bne_self_eq_false,zaf,if_false,hf,Sem.run_pure,q2,q3];simp[ak,aq]
end
end Go.aK
namespace Go.aK
open Go.RowKit
section
variable {P:Program}{n0 nt:Nat}{T:Tm}{hp:Tr AO}{nx:Pz}{G:GH}{ops:Array Oper}{i d:Nat}
theorem uB {fo:Operand}{xs:List Operand}{f:Nat}{bs args cs:List AV}(hc:wx (ae ops i)=some (fo,xs))(hf:a9 nt T fo (.func (.func f) bs cs))(hargs:HJ nt T xs args){w:World}{ι:En}{a:Act}(ht:ca ι nt T a) :
  (execOp a.eval (ae ops i)).run P w=(callFunc f (aq ι (bs++(args++cs))).toArray).run P w:=by
 unfold wx at hc;split at hc
 ·rename_i c ho;split at hc
  ·rename_i f' hcal;simp only[Option.some.injEq,Prod.mk.injEq]at hc;obtain⟨rfl,rfl⟩:=hc;have hargs':c.args.map a.eval=(aq ι args).toArray:=by rw[map_mk,hargs.map ht]
   simp only[execOp,ho,resolve,hcal,hargs',hf ι a ht,ak,kR,Deferred.ofValue,Sem.run_bind,Sem.run_pure,Result.andThen_ok,invoke];congr 2;rw[e8,e8];simp
  ·cases hc
 ·cases hc
theorem fI.PY {f:Nat}{bs args cs:List AV}{fo:Operand}{xs:List Operand}{R0:AV->GH->Prop}(hg:(ae ops i).guard=none)(hd:(ae ops i).dst=some d)(hlt:d<nt)(hc:wx (ae ops i)=some (fo,xs))(hf:a9 nt T fo (.func (.func f) bs cs))(hev:HJ nt T xs args)
  (hargs:nW (bs++(args++cs))) (hs:Spec P f (bs++(args++cs)) G R0) {R:Tm->Tr AO->Pz->GH->Prop} (hr:∀v G',R0 v G'->nf v->oj n0 G G'->R (T.put d v) hp nx G'):fI P n0 nt ops i T hp nx G R:=by
 intro B w0 ι a w hsat;have ht:=(hsat.1.2 ι (ao.refl _ _)).1;refine .inl ⟨by simp[Region.wanted,hg],?_⟩;have hrun:=uB (P:=P) (w:=w) hc hf hev ht;have:=hs.MZ hargs hsat rfl
 have g:dU P (callFunc f (aq ι (bs++(args++cs))).toArray) w fun cv w'=>∃T' hp' nx' G' ι2,R T' hp' nx' G'/\dX n0 B w0 nt T' hp' nx' G' ι2 (a.put (ae ops i).dst cv) w':=by
  refine this.mono fun cv w' ⟨v,G',g1,g2,g3,g4,g5⟩=>⟨T.put d v,hp,nx,G',ι,hr v G' g1 g2 g5,?_⟩;rw[hd];exact eo g4 hlt g2 g3
 unfold dU at g ⊢;rw[hrun];exact g
theorem fI.KE {f:Nat}{bs args cs:List AV}{fo:Operand}{xs:List Operand}{R0:AV->GH->Prop}(hg:(ae ops i).guard=none)(hd:(ae ops i).dst=none)(hc:wx (ae ops i)=some (fo,xs))(hf:a9 nt T fo (.func (.func f) bs cs))(hev:HJ nt T xs args)
  (hargs:nW (bs++(args++cs))) (hs:Spec P f (bs++(args++cs)) G R0) {R:Tm->Tr AO->Pz->GH->Prop} (hr:∀v G',R0 v G'->oj n0 G G'->R T hp nx G'):fI P n0 nt ops i T hp nx G R:=by
 intro B w0 ι a w hsat;have ht:=(hsat.1.2 ι (ao.refl _ _)).1;refine .inl ⟨by simp[Region.wanted,hg],?_⟩;have hrun:=uB (P:=P) (w:=w) hc hf hev ht;have:=hs.MZ hargs hsat rfl
 have g:dU P (callFunc f (aq ι (bs++(args++cs))).toArray) w fun cv w'=>∃T' hp' nx' G' ι2,R T' hp' nx' G'/\dX n0 B w0 nt T' hp' nx' G' ι2 (a.put (ae ops i).dst cv) w':=by
  refine this.mono fun cv w' ⟨v,G',g1,g2,g3,g4,g5⟩=>⟨T,hp,nx,G',ι,hr v G' g1 g5,?_⟩;rw[hd];exact g4
 unfold dU at g ⊢;rw[hrun];exact g
theorem ba.WA {f:Nat}{fs gs:Array Operand}{bs cs:List AV}(hg:(ae ops i).guard=none)(ho:(ae ops i).op=.makeFunc (.func f) fs gs)(hf:HJ nt T fs.toList bs)(hgs:HJ nt T gs.toList cs):ba P ops n0 nt i T hp nx G (.func (.func f) bs cs):=by
 refine bQ hg fun B w0 ι a w hs=>?_;have ht:=(hs.1.2 ι (ao.refl _ _)).1;have e1:fs.map a.eval=(aq ι bs).toArray:=by rw[map_mk,hf.map ht]
 have e2:gs.map a.eval=(aq ι cs).toArray:=by rw[map_mk,hgs.map ht]
 simp only[execOp,ho,e1,e2];simp[Instr.makeFunc,ak,kR]
end
end Go.aK
