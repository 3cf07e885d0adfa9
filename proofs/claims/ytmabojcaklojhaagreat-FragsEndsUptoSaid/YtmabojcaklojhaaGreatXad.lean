/- Part Xad of the proof of FragsEnds: no condition. -/
import Derived.Test.YtmabojcaklojhaaGreatXac
set_option linter.unusedSimpArgs false
set_option linter.unusedVariables false
namespace Go.aQ
open Go.RowKit
section
variable {P:Program} {n0 nt:Nat} {T T2:Tm} {hp H:Tr AO} {nx X:Pz} {G:GH} {ops:Array Oper} {aG:List Nat} {i m d:Nat} {v:AV} {call:bx}
def QS (ops:Array Oper) (aG:List Nat) (nt:Nat):Bool :=
 (List.range ops.size).all fun i =>
  iX (ab ops i)&&(((ab ops i).after.all fun e=>!Region.binds .any e||Nat.blt e.on i)&&((match (ab ops i).dst with | some d=>Nat.blt d nt | none=>true) &&
  ((!aG.contains i||(match (ab ops i).dst with | some d=>!((ab ops i).looksAt ops).contains d&&((List.range ops.size).all fun j=>i==j||!((ab ops j).dst==some d)) | none=>false)) &&
   ((List.range ops.size).all fun j=>i==j||(match (ab ops j).dst with
     | some d=>!((ab ops i).looksAt ops).contains d||(if aG.contains j then bit (Region.before ops) i j else !aG.contains i||(bit (Region.before ops) i j||bit (Region.before ops) j i))
     | none=>true)))))
theorem Oo (h:QS ops aG nt=true):Lt ops aG nt:=by
 unfold QS at h
 rw [List.all_eq_true] at h
 have key:∀i,i<ops.size->_:=fun i hi=>h i (List.mem_range.2 hi)
 simp only [Bool.and_eq_true] at key
 refine⟨fun i hl hi=>?_,fun i hi=>(key i hi).1,fun i j d hl hi hj hne hd hd'=>?_,fun i j d hl hi hj hne hd hlk=>?_,fun i h d hl hnl hi hh hd hlk=>?_,fun i hi e he hb=>?_,fun i d hi hd=>?_⟩
 · obtain⟨k1,k2,k3,k4,k5⟩:=key i hi
   refine⟨k1,?_⟩
   rw [List.contains_iff_mem.2 hl] at k4
   simp only [Bool.not_true,Bool.false_or] at k4
   cases hd:(ab ops i).dst with
   | none=>rw [hd] at k4; simp at k4
   | some d =>
     rw [hd] at k4
     simp only [Bool.and_eq_true,Bool.not_eq_true'] at k4
     exact⟨d,rfl,fun hc=>by rw [List.contains_iff_mem.2 hc] at k4; exact absurd k4.1 (by decide)⟩
 · obtain⟨k1,k2,k3,k4,k5⟩:=key i hi
   rw [List.contains_iff_mem.2 hl] at k4
   simp only [Bool.not_true,Bool.false_or,hd,Bool.and_eq_true,List.all_eq_true] at k4
   have:=k4.2 j (List.mem_range.2 hj)
   rw [hd'] at this
   simp [hne] at this
 · obtain⟨k1,k2,k3,k4,k5⟩:=key i hi
   rw [List.all_eq_true] at k5
   have:=k5 j (List.mem_range.2 hj)
   rw [hd] at this
   simp only [List.contains_iff_mem.2 hlk,List.contains_iff_mem.2 hl,Bool.not_true,Bool.false_or,if_true] at this
   have hx:bit (Region.before ops) i j=true:=by simpa [hne] using this
   exact hx
 · obtain⟨k1,k2,k3,k4,k5⟩:=key i hi
   rw [List.all_eq_true] at k5
   have:=k5 h (List.mem_range.2 hh)
   have hne:i≠h:=fun e=>hnl (e▸hl)
   have hc:aG.contains h=false:=by
    cases hx:aG.contains h with
    | false=>rfl
    | true=>exact absurd (List.contains_iff_mem.1 hx) hnl
   rw [hd] at this
   simp only [List.contains_iff_mem.2 hlk,List.contains_iff_mem.2 hl,hc,Bool.not_true,Bool.false_or,Bool.false_eq_true,if_false] at this
   simp [hne] at this
   exact this
 · obtain⟨k1,k2,k3,k4,k5⟩:=key i hi
   have:=Array.all_eq_true'.1 k2 e he
   rw [hb] at this
   exact au (by simpa using this)
 · obtain⟨k1,k2,k3,k4,k5⟩:=key i hi
   rw [hd] at k3
   exact au k3
theorem u5 {B:Nat->Prop} {w0 w:World} {ι:En} {a:Act} (h:du n0 B w0 nt T hp nx G ι a w):du n0 B w0 nt T hp nx G ι a w.drew :=
 ⟨⟨h.1.1,fun ι' hι=>⟨(h.1.2 ι' hι).1,gS (h.1.2 ι' hι).2⟩⟩,fun b g hb=>(h.2.1 b g hb).br rfl (fun h=>h),h.2.2.1,h.2.2.2⟩
theorem Au {K:Ex->Tm->Tr AO->Pz->GH->Prop} (hm:P.follows .mixedOrders=true) (f:Nat) (hl:QS ops aG nt=true) {id:Nat} (h:JA P n0 nt ops aG f [] [] T hp nx G (K .fK)):eu P n0 nt (.region id ops true) T hp nx G K:=by
 intro B w0 w ι a hs Q hn
 refine Ks hm (Oo hl) (hs.1.2 ι (al.refl _ _)).1.size (f:=f) ?_
 have:=h B w0 ι a w.drew (u5 hs) (Q .normal) fun T' hp' nx' G' ι2 a' w' k1 k4=>hn .fK T' hp' nx' G' ι2 a' w' k1 k4
 simpa using this
structure nc (n0:Nat) (G G':GH):Prop where
 new:∀b,(G' b).isSome=true->(G b).isSome=true∨n0<=b
 old:∀b,(G b).isSome=true->(G' b).isSome=true
theorem nc.refl (n0:Nat) (G:GH):nc n0 G G:=⟨fun b h=>.inl h,fun b h=>h⟩
theorem nc.trans {G1 G2 G3:GH} (h:nc n0 G1 G2) (h':nc n0 G2 G3):nc n0 G1 G3 :=
 ⟨fun b hb=>(h'.new b hb).elim (h.new b) .inr,fun b hb=>h'.old b (h.old b hb)⟩
def Spec (P:Program) (f:Nat) (args:List AV) (G:GH) (R:AV->GH->Prop):Prop :=
 ∀B w0 w ι (cargs:Array Value),Core B w0 ι .e w->Mm B G w->cargs=(ao ι args).toArray ->
  dk P (callFunc f cargs) w fun cv w'=>∃v G',R v G'/\nf v/\cv=aj ι v/\Core B w0 ι .e w'/\Mm B G' w'/\(∀b,(G' b).isSome=true->(G b).isSome=true∨w.heap.size<=b)/\∀b,(G b).isSome=true->(G' b).isSome=true
theorem Spec.mono {f:Nat} {args:List AV} {R R':AV->GH->Prop} (h:Spec P f args G R) (hr:∀v G',R v G'->R' v G'):Spec P f args G R':=fun B w0 w ι cargs h1 h2 h3 =>
 (h B w0 w ι cargs h1 h2 h3).mono fun cv w' ⟨v,G',g1,g2⟩=>⟨v,G',hr _ _ g1,g2⟩
def sM (hp:Tr AO) (ι:En) (b:Nat):Prop:=∃id o,hp.get id=some o/\own hp o/\ι.aR id=b
theorem sN {B:Nat->Prop} {w0 w w':World} {ι ι':En} (hw:Wf hp nx) (hι:al nx ι ι') (hc:Core B w0 ι' hp w) (hk:Kept (fun b=>B b∨sM hp ι b) w w'):Core B w0 ι' hp w':=by
 refine⟨hc.below.trans (hk.mono fun k hk=>.inl hk),fun k hk'=>Nat.lt_of_lt_of_le (hc.room k hk') hk.size,fun id o hid=>?_,hc.base,hc.sep,hc.ec⟩
 refine (hc.obj id o hid).br (fun h=>h) fun ho=>hk.block _ (.inr ⟨id,o,hid,ho,?_⟩)
 exact ((hι id (hw.lt id o hid)).1).symm
theorem nY.less {B B':Nat->Prop} {w:World} {b:Nat} {g:Gh} (h:nY B w b g) (hB:∀b,B' b->B b):nY B' w b g:=h.br rfl (hB b)
theorem Spec.Mn {f:Nat} {args:List AV} {R:AV->GH->Prop} (h:Spec P f args G R) (hargs:mP args) {B:Nat->Prop} {w0 w:World} {ι:En} {a:Act} (hs:du n0 B w0 nt T hp nx G ι a w) {cargs:Array Value} (hc:cargs=(ao ι args).toArray) :
  dk P (callFunc f cargs) w fun cv w'=>∃v G',R v G'/\nf v/\cv=aj ι v/\du n0 B w0 nt T hp nx G' ι a w'/\nc n0 G G':=by
 obtain⟨hs1,hg,ho,hn,hb⟩:=hs
 have c0:=(hs1.2 ι (al.refl _ _)).2
 have no:∀{id:Pz} {o:AO} {p:Prop},(Tr.e:Tr AO).get id=some o->p:=fun h=>by rw [Tr.fD] at h; cases h
 have ce:Core (fun b=>B b∨sM hp ι b) w ι .e w:=by
  refine⟨Kept.refl _ _,fun k hk=>?_,fun id o h=>no h,fun id o h=>no h,fun id id' o o' _ h=>no h,fun id id' f ep es n el c f' ep' tp' es' n' el' c' _ h=>no h⟩
  rcases hk with hk | ⟨id,o,hid,hown,rfl⟩
  · exact c0.room k hk
  · exact wy hown (c0.obj id o hid)
 have hg':Mm (fun b=>B b∨sM hp ι b) G w:=fun b g hb'=>by
  have hno:¬sM hp ι b:=by
   rintro⟨id,o,hid,hown,rfl⟩
   rw [ho id o hid hown] at hb'; cases hb'
  exact (hg b g hb').br rfl fun h=>h.resolve_right hno
 refine (h _ _ w ι cargs ce hg' hc).mono fun cv w' ⟨v,G',g1,g2,g3,g4,g5,g6,g7⟩=>⟨v,G',g1,g2,g3,?_,⟨fun b hb=>(g6 b hb).imp id fun h=>Nat.le_trans hn h,g7⟩⟩
 refine⟨⟨hs1.1,fun ι' hι=>⟨(hs1.2 ι' hι).1,sN hs1.1 hι (hs1.2 ι' hι).2 g4.below⟩⟩,fun b g hb'=>(g5 b g hb').less fun b hb=>.inl hb,fun id o hid hown=>?_,Nat.le_trans hn g4.below.size,fun b hlt hnone=>?_⟩
 · cases hgb:G' (ι.aR id) with
   | none=>rfl
   | some g =>
     rcases g6 _ (by rw [hgb]; rfl) with h | h
     · rw [ho id o hid hown] at h; cases h
     · exact absurd (wy hown (c0.obj id o hid)) (by omega)
 · refine hb b hlt ?_
   cases hgb:G b with
   | none=>rfl
   | some g =>
     have:=g7 b (by rw [hgb]; rfl)
     rw [hnone] at this; cases this
end
end Go.aQ
namespace Go.aQ
open Go.RowKit
section
variable {P:Program} {n0 nt:Nat} {T T2:Tm} {hp H:Tr AO} {nx X:Pz} {G:GH} {ops:Array Oper} {aG:List Nat} {i m d:Nat} {v:AV}
def u6 (o:Oper):Option (Operand × List Operand):=match o.op with
 | .call c=>match c.callee with | .value f=>some (f,c.args.toList) | _=>none
 | _=>none
end
end Go.aQ
namespace Go.aQ
open Go.RowKit
section
variable {P:Program} {n0 nt:Nat} {T T2:Tm} {hp H:Tr AO} {nx X:Pz} {G:GH} {ops:Array Oper} {aG:List Nat} {i m d:Nat} {v:AV}
theorem bQ (hg:(ab ops i).guard=none) (h:∀B w0 ι a w,du n0 B w0 nt T hp nx G ι a w->(execOp a.eval (ab ops i)).run P w=.ok (.value (aj ι v)) w):aZ P ops n0 nt i T hp nx G v :=
 fun B w0 ι a w hs=>.inl ⟨by simp [Region.wanted,hg],h B w0 ι a w hs⟩
theorem jg {B:Nat->Prop} {w0 w:World} {ι:En} {a:Act} (hs:du n0 B w0 nt T hp nx G ι a w) (x:Nat) {u:AV} (hx:T.at x=u):a.eval (.tmp x)=aj ι u:=by
 show a.tmps.getD x undef=_
 rw [(hs.1.2 ι (al.refl _ _)).1.val x,hx]
theorem aZ.field {t ft:TypeId} {x f off b o:Nat} (hg:(ab ops i).guard=none) (ho:(ab ops i).op=.fieldAddr t (.tmp x) f) (hx:T.at x=.bW b o) (hf:er P t f=some (off,ft)) (hz:Nat.beq (ae P ft) 0=false) :
  aZ P ops n0 nt i T hp nx G (.bW b (o+off)):=by
 refine bQ hg fun B w0 ι a w hs=>?_
 obtain⟨fs,fd,h1,h2,h3,h4⟩:=jt hf
 have hz':=pP hz
 obtain⟨j,hj⟩:=rV hz'
 simp only [execOp,ho]
 rw [jg hs x hx]
 simp only [aj,Instr.fieldAt,Sem.run_bind,av h1,Result.andThen_ok,h2,Instr.sureAddr,Sem.run_pure,fieldPlace]
 rw [h4,cO hj]
 simp only [Result.andThen_ok]
 rw [if_neg hz']
 simp only [Sem.run_pure,Result.andThen_ok,fE,h3,Nat.add_assoc]
theorem aZ.nil {x b o:Nat} (hg:(ab ops i).guard=none) (ho:(ab ops i).op=.nilCheck (.tmp x)) (hx:T.at x=.bW b o):aZ P ops n0 nt i T hp nx G (.bW b o):=by
 refine bQ hg fun B w0 ι a w hs=>?_
 simp only [execOp,ho]
 rw [jg hs x hx]
 simp [aj]
theorem gW {B:Nat->Prop} {w0 w:World} {ι:En} {a:Act} {b:Nat} {wr:BK} {el:TypeId} {size:Nat} {C:List AV} (hs:du n0 B w0 nt T hp nx G ι a w) (hb:G b=some (.cells wr el size C)) (o:Nat) (ho:o<C.length) (hu:wr=.raw->C[o]?≠some aD:=by exact fun h=>by cases h) :
  w.cell? ⟨b,o,none⟩=(C[o]?).map (aj ι):=by
 obtain⟨_,A,fz,h1,h2,h3,h4,h5⟩:=hs.2.1 b _ hb
 rw [cell_of h1,h4 o ho hu]
theorem aZ.BP {t:TypeId} {x b o:Nat} {wr:BK} {el:TypeId} {size n:Nat} {C l:List AV} (hg:(ab ops i).guard=none) (ho:(ab ops i).op=.load t (.tmp x)) (hx:T.at x=.bW b o) (ht:dJ P t=true) (hn:ae P t=n)
  (hb:G b=some (.cells wr el size C)) (hle:o+n<=C.length) (hl:(C.drop o).take n=l) (hu:wr=.raw->aD ∉ l:=by exact fun h=>by cases h):aZ P ops n0 nt i T hp nx G (.agg l):=by
 refine bQ hg fun B w0 ι a w hs=>?_
 obtain⟨d,hd⟩:=oM ht
 have hlen:l.length=n:=by rw [<-hl,List.length_take,List.length_drop]; omega
 simp only [execOp,ho]
 rw [jg hs x hx]
 simp only [aj,Instr.loadAt,Instr.sureAddr,loadVar,Sem.run_bind,Sem.run_pure,Result.andThen_ok,hO hd,ht,if_true,gB hd,hn]
 rw [run_loadCells (l:=ao ι l) (by rw [aq,hlen]) fun j hj=>?_]
 · simp
 · rw [aq] at hj
   rw [gW hs hb _ (by omega) (fun hw he=>hu hw (by rw [<-hl]; exact List.mem_of_getElem? (i:=j) (by rw [List.getElem?_take_of_lt (by omega),List.getElem?_drop]; exact he))),bo,<-hl,List.getElem?_take_of_lt (by omega),List.getElem?_drop]
theorem aZ.yP {t:TypeId} {x b o:Nat} {wr:BK} {el:TypeId} {size:Nat} {C:List AV} (hg:(ab ops i).guard=none) (ho:(ab ops i).op=.load t (.tmp x)) (hx:T.at x=.bW b o) (hk:cr P t=true) (ht:dJ P t=false)
  (hb:G b=some (.cells wr el size C)) (hl:C[o]?=some v) (hu:wr=.raw->v≠aD:=by exact fun h=>by cases h):aZ P ops n0 nt i T hp nx G v:=by
 refine bQ hg fun B w0 ι a w hs=>?_
 obtain⟨d,hd⟩:=jS hk
 have hlt:o<C.length:=(List.getElem?_eq_some_iff.1 hl).1
 simp only [execOp,ho]
 rw [jg hs x hx]
 simp only [aj,Instr.loadAt,Instr.sureAddr,loadVar,Sem.run_bind,Sem.run_pure,Result.andThen_ok,hO hd,ht,Bool.false_eq_true,if_false]
 rw [fF (v:=aj ι v) (by rw [gW hs hb _ hlt (fun hw he=>hu hw (by rw [hl] at he; exact Option.some.inj he)),hl]; rfl)]
 simp
end
end Go.aQ
namespace Go.aQ
open Go.RowKit
def eH (G:GH) (b:Nat) (g:Gh):GH:=fun k=>if k=b then some g else G k
theorem ay (G:GH) (b:Nat) (g:Gh):eH G b g b=some g:=by simp [eH]
theorem db {G:GH} {b k:Nat} {g:Gh} (h:k≠b):eH G b g k=G k:=by simp [eH,h]
section
variable {P:Program} {n0 nt:Nat} {T T2:Tm} {hp H:Tr AO} {nx X:Pz} {G:GH} {ops:Array Oper} {aG:List Nat} {i m d:Nat} {v:AV}
theorem j0 {B:Nat->Prop} {w0 w w':World} {ι:En} {a:Act} {b:Nat} {g:Gh} (hs:du n0 B w0 nt T hp nx G ι a w) (hk:Kept (fun k=>B k∨sM hp ι k) w w') (hoth:∀k g',k≠b->G k=some g'->w'.heap[k]?=w.heap[k]?)
  (hg:nY B w' b g) (hb:∀id o,hp.get id=some o->own hp o->ι.aR id≠b):du n0 B w0 nt T hp nx (eH G b g) ι a w':=by
 obtain⟨hs1,hg1,ho,hn,hbb⟩:=hs
 refine⟨⟨hs1.1,fun ι' hι=>⟨(hs1.2 ι' hι).1,sN hs1.1 hι (hs1.2 ι' hι).2 hk⟩⟩,fun k g' hk'=>?_,fun id o hid hown=>?_,Nat.le_trans hn hk.size,fun k hlt hnone=>?_⟩
 · by_cases e:k=b
   · subst e; rw [ay] at hk'; cases hk'; exact hg
   · rw [db e] at hk'
     exact (hg1 k g' hk').br (hoth k g' e hk') (fun h=>h)
 · rw [db (hb id o hid hown)]; exact ho id o hid hown
 · by_cases e:k=b
   · subst e; rw [ay] at hnone; cases hnone
   · rw [db e] at hnone; exact hbb k hlt hnone
theorem dC {b:Nat} {g:Gh} (h:(G b).isSome=true∨n0<=b):nc n0 G (eH G b g):=by
 refine⟨fun k hk=>?_,fun k hk=>?_⟩
 · by_cases e:k=b
   · subst e; exact h
   · rw [db e] at hk; exact .inl hk
 · by_cases e:k=b
   · subst e; rw [ay]; rfl
   · rw [db e]; exact hk
def D0 (P:Program) (n0 nt:Nat) (T:Tm) (hp:Tr AO) (nx:Pz) (G:GH) (sz m:Nat) (v:AV) (E:List AV):Prop :=
 E.length=m*sz/\mP E/\flat E=true/\∀B w0 ι a w,du n0 B w0 nt T hp nx G ι a w->(Builtin.lenOf (aj ι v)).run P w=.ok m w/\(Builtin.firstCells sz m (aj ι v)).run P w=.ok (ao ι E).toArray w
theorem dD {B:Nat->Prop} {w0 w:World} {ι:En} {a:Act} {cv:Value} (hs:du n0 B w0 nt T hp nx G ι a w) (hd:d<nt) (hv:nf v) (hc:cv=aj ι v):du n0 B w0 nt (T.put d v) hp nx G ι (a.put (some d) cv) w :=
 ⟨⟨hs.1.1,fun ι' hι=>⟨jU (hs.1.2 ι' hι).1 hd (by rw [hc]; exact hv _ _),(hs.1.2 ι' hι).2⟩⟩,hs.2⟩
theorem po {B:Nat->Prop} {w0 w:World} {ι:En} {a:Act} (hs:du n0 B w0 nt T hp nx G ι a w):∀id o,hp.get id=some o->own hp o->ι.aR id<w.heap.size:=fun id o hid ho=>wy ho ((hs.1.2 ι (al.refl _ _)).2.obj id o hid)
theorem HE {kd:BK} {B:Nat->Prop} {w0 w:World} {ι:En} {a:Act} {A:Array Value} {el:TypeId} {C:List AV} (hs:du n0 B w0 nt T hp nx G ι a w) (hC:mP C) (hle:C.length<=A.size) (hA:∀i,i<C.length->A[i]?=(C[i]?).map (aj ι)) :
  du n0 B w0 nt T hp nx (eH G w.heap.size (.cells kd el A.size C)) ι a (w.drew.alloc (.cells A el (0,0)))/\n0<=w.heap.size/\G w.heap.size=none:=by
 have c0:=(hs.1.2 ι (al.refl _ _)).2
 have hroom:∀k,(B k∨sM hp ι k)->k<w.heap.size:=fun k hk=>by
  rcases hk with hk | ⟨id,o,hid,hown,rfl⟩
  · exact c0.room k hk
  · exact po hs id o hid hown
 refine⟨j0 hs ?_ (fun k g' hne hk=>?_) ?_ (fun id o hid hown e=>?_),hs.2.2.2.1,?_⟩
 · exact ((Kept.refl _ _).drew).alloc (fun k hk=>hroom k hk) _
 · exact Below.heap_alloc _ _ _ (hs.2.1 k g' hk).lt
 · refine⟨hC,A,(0,0),bJ w.drew _,rfl,hle,fun i hi _ ι'=>?_,fun _=>⟨fun hb=>absurd (hroom _ (.inl hb)) (by omega),.inl rfl⟩⟩
   rw [hA i hi]
   cases hc:C[i]? with
   | none=>rfl
   | some u=>exact congrArg some (hC u (List.mem_of_getElem? hc) ι ι')
 · have:=po hs id o hid hown
   omega
 · cases hg:G w.heap.size with
   | none=>rfl
   | some g=>exact absurd (hs.2.1 _ _ hg).lt (by omega)
end
end Go.aQ
namespace Go.aQ
open Go.RowKit
section
variable {P:Program} {n0 nt:Nat} {T T2:Tm} {hp H:Tr AO} {nx X:Pz} {G:GH} {ops:Array Oper} {aG:List Nat} {i m d:Nat} {v:AV}
theorem sO {sz:Nat} (hv:v=.aB):D0 P n0 nt T hp nx G sz 0 v []:=by
 subst hv
 exact⟨by simp,hY,rfl,fun B w0 ι a w hs=>⟨by simp [aj,Builtin.lenOf],by simp [aj,ao,Builtin.firstCells]⟩⟩
end
theorem yQ {l:List AV} (h:∀v∈l,qV v=true):flat l=true:=by
 induction l with
 | nil=>rfl
 | cons v l ih =>
   show Bool.rec (motive:=fun _=>Bool) false (flat l) (qV v)=true
   rw [h v (by simp),ih fun x hx=>h x (by simp [hx])]
end Go.aQ


namespace Go.aQ
open Go.RowKit
def ba (nt:Nat) (T:Tm) (x:Operand) (v:AV):Prop:=∀ι a,bG ι nt T a->a.eval x=aj ι v
theorem Oq {nt:Nat} {T:Tm} {x:Nat} {v:AV} (h:T.at x=v):ba nt T (.tmp x) v:=fun ι a ha=>by
 show a.tmps.getD x undef=_
 rw [ha.val x,h]
def ub (C:List AV) (o:Nat) (l:List AV):List AV:=C.take o++l++C.drop (o+l.length)
theorem qO {C l:List AV} {o:Nat} (h:o+l.length<=C.length):(ub C o l).length=C.length:=by
 simp only [ub,List.length_append,List.length_take,List.length_drop]; omega
theorem HF {C l:List AV} {o:Nat} (h:o+l.length<=C.length) (k:Nat):(ub C o l)[k]?=if o<=k/\k<o+l.length then l[k-o]? else C[k]?:=by
 unfold ub
 by_cases h1:k<o
 · rw [if_neg (by omega),List.append_assoc,List.getElem?_append_left (by rw [List.length_take]; omega),List.getElem?_take_of_lt h1]
 · by_cases h2:k<o+l.length
   · rw [if_pos ⟨by omega,h2⟩,List.append_assoc,List.getElem?_append_right (by rw [List.length_take]; omega),List.getElem?_append_left (by rw [List.length_take]; omega),List.length_take,Nat.min_eq_left (by omega)]
   · rw [if_neg (by omega),List.getElem?_append_right (by rw [List.length_append,List.length_take]; omega),List.getElem?_drop]
     congr 1
     rw [List.length_append,List.length_take]; omega
end Go.aQ
namespace Go.aQ
open Go.RowKit
section
variable {P:Program} {n0 nt:Nat} {T T2:Tm} {hp H:Tr AO} {nx X:Pz} {G:GH} {ops:Array Oper} {aG:List Nat} {i m d:Nat} {v u:AV}
def Mo (nt:Nat) (T:Tm):List Operand->List AV->Prop
 | [],[]=>True
 | x::xs,v::vs=>ba nt T x v/\Mo nt T xs vs
 | _,_=>False
theorem Mo.map {ι:En} {a:Act} (ha:bG ι nt T a):∀{xs:List Operand} {vs:List AV},Mo nt T xs vs->xs.map a.eval=ao ι vs
 | [],[],_=>rfl
 | x::xs,v::vs,h=>by
   simp only [List.map_cons,ao]
   rw [h.1 ι a ha,Mo.map ha h.2]
 | [],_::_,h=>h.elim
 | _::_,[],h=>h.elim
theorem u7 {fo:Operand} {xs:List Operand} {f:Nat} {args:List AV} (hc:u6 (ab ops i)=some (fo,xs)) (hf:ba nt T fo (.func (.func f) [] [])) (hargs:Mo nt T xs args) {w:World} {ι:En} {a:Act} (ht:bG ι nt T a) :
  (execOp a.eval (ab ops i)).run P w=(callFunc f (ao ι args).toArray).run P w:=by
 unfold u6 at hc
 split at hc
 · rename_i c ho
   split at hc
   · rename_i f' hcal
     simp only [Option.some.injEq,Prod.mk.injEq] at hc
     obtain⟨rfl,rfl⟩:=hc
     have hargs':c.args.map a.eval=(ao ι args).toArray:=by rw [map_mk,hargs.map ht]
     simp only [execOp,ho,resolve,hcal,hargs',hf ι a ht,aj,lh,ao,Deferred.ofValue,Sem.run_bind,Sem.run_pure,Result.andThen_ok,invoke]
     congr 2
     simp
   · cases hc
 · cases hc
theorem eZ.Rr {f:Nat} {args:List AV} {fo:Operand} {xs:List Operand} {R0:AV->GH->Prop} (hg:(ab ops i).guard=none) (hd:(ab ops i).dst=some d) (hlt:d<nt) (hc:u6 (ab ops i)=some (fo,xs)) (hf:ba nt T fo (.func (.func f) [] [])) (hev:Mo nt T xs args)
  (hargs:mP args) (hs:Spec P f args G R0) {R:Tm->Tr AO->Pz->GH->Prop} (hr:∀v G',R0 v G'->nf v->nc n0 G G'->R (T.put d v) hp nx G'):eZ P n0 nt ops i T hp nx G R:=by
 intro B w0 ι a w hsat
 have ht:=(hsat.1.2 ι (al.refl _ _)).1
 refine .inl ⟨by simp [Region.wanted,hg],?_⟩
 have hrun:=u7 (P:=P) (w:=w) hc hf hev ht
 have:=hs.Mn hargs hsat rfl
 have g:dk P (callFunc f (ao ι args).toArray) w fun cv w'=>∃T' hp' nx' G' ι2,R T' hp' nx' G'/\du n0 B w0 nt T' hp' nx' G' ι2 (a.put (ab ops i).dst cv) w':=by
  refine this.mono fun cv w' ⟨v,G',g1,g2,g3,g4,g5⟩=>⟨T.put d v,hp,nx,G',ι,hr v G' g1 g2 g5,?_⟩
  rw [hd]
  exact dD g4 hlt g2 g3
 unfold dk at g ⊢
 rw [hrun]
 exact g
theorem eZ.Ot {f:Nat} {args:List AV} {fo:Operand} {xs:List Operand} {R0:AV->GH->Prop} (hg:(ab ops i).guard=none) (hd:(ab ops i).dst=none) (hc:u6 (ab ops i)=some (fo,xs)) (hf:ba nt T fo (.func (.func f) [] [])) (hev:Mo nt T xs args)
  (hargs:mP args) (hs:Spec P f args G R0) {R:Tm->Tr AO->Pz->GH->Prop} (hr:∀v G',R0 v G'->nc n0 G G'->R T hp nx G'):eZ P n0 nt ops i T hp nx G R:=by
 intro B w0 ι a w hsat
 have ht:=(hsat.1.2 ι (al.refl _ _)).1
 refine .inl ⟨by simp [Region.wanted,hg],?_⟩
 have hrun:=u7 (P:=P) (w:=w) hc hf hev ht
 have:=hs.Mn hargs hsat rfl
 have g:dk P (callFunc f (ao ι args).toArray) w fun cv w'=>∃T' hp' nx' G' ι2,R T' hp' nx' G'/\du n0 B w0 nt T' hp' nx' G' ι2 (a.put (ab ops i).dst cv) w':=by
  refine this.mono fun cv w' ⟨v,G',g1,g2,g3,g4,g5⟩=>⟨T,hp,nx,G',ι,hr v G' g1 g5,?_⟩
  rw [hd]
  exact g4
 unfold dk at g ⊢
 rw [hrun]
 exact g
end
end Go.aQ





namespace Go.aQ
open Go.RowKit
def me (C:List AV) (p:Nat) (l:List AV):List AV:=C.take p++l++C.drop (p+l.length)
theorem qa {C l:List AV} {p:Nat} (h:p<=C.length) (k:Nat):(me C p l)[k]?=if p<=k/\k<p+l.length then l[k-p]? else C[k]?:=by
 unfold me
 by_cases h1:k<p
 · rw [if_neg (by omega),List.append_assoc,List.getElem?_append_left (by rw [List.length_take]; omega),List.getElem?_take_of_lt h1]
 · by_cases h2:k<p+l.length
   · rw [if_pos ⟨by omega,h2⟩,List.append_assoc,List.getElem?_append_right (by rw [List.length_take]; omega),List.getElem?_append_left (by rw [List.length_take]; omega),List.length_take,Nat.min_eq_left (by omega)]
   · rw [if_neg (by omega),List.getElem?_append_right (by rw [List.length_append,List.length_take]; omega),List.getElem?_drop]
     congr 1
     rw [List.length_append,List.length_take]; omega
theorem kS {C l:List AV} {p:Nat} (h:p<=C.length):(me C p l).length=max C.length (p+l.length):=by
 simp only [me,List.length_append,List.length_take,List.length_drop]; omega
def Ext (G:GH) (v:AV) (el:TypeId) (sz len:Nat) (E:List AV):Prop :=
 (v=.aB/\len=0/\E=[])∨∃b o cap size C,v=.di b o len cap/\G b=some (.cells .data el size C)/\o+len*sz<=C.length/\(C.drop o).take (len*sz)=E/\o+cap*sz<=size/\len<=cap
def Kx (n0:Nat) (G G':GH) (v v':AV) (e:TypeId) (sz len m:Nat) (E L:List AV):Prop :=
 (v'=.aB/\G'=G/\len=0/\m=0/\v=.aB) ∨
 (∃b o cap size C,v=.di b o len cap/\G b=some (.cells .data e size C)/\v'=.di b o (len+m) cap/\len+m<=cap/\o+cap*sz<=size/\o+len*sz<=C.length/\G'=eH G b (.cells .data e size (me C (o+len*sz) L))) ∨
 (∃b c' size,n0<=b/\G b=none/\v'=.di b 0 (len+m) c'/\len+m<=c'/\c'*sz<=size/\G'=eH G b (.cells .data e size (E++L)))
end Go.aQ
namespace Go.aQ
open Go.RowKit
inductive KK where | str | pair | int | iD | mf | u9
def dK:KK->AV->Prop
 | .str,v=>∃l n,v=.str l n
 | .mf,v=>∃l n,v=.str l n/\l<=1099511627776
 | .pair,v=>∃l n l' n',v=.agg [.str l n,.str l' n']
 | .int,v=>∃n,v=.int .i64 n
 | .iD,v=>∃n n',v=.agg [.int .i64 n,.int .i64 n']
 | .u9,v=>∃l n z b,v=.agg [.str l n,.int .i64 z,.bool b]
def aY:AV->AV->Bool
 | .str l n,.str l' n'=>aO l n l' n'
 | .agg [.str a b,.str c d],.agg [.str a' b',.str c' d']=>aO a b a' b'&&aO c d c' d'
 | .int _ n,.int _ n'=>n==n'
 | .agg [.int _ a,.int _ b],.agg [.int _ a',.int _ b']=>a==a'&&b==b'
 | .agg [.str a b,.int _ n,.bool p],.agg [.str a' b',.int _ n',.bool p']=>aO a b a' b'&&(n==n'&&p==p')
 | _,_=>false
theorem dK.nf {pk:KK} {v:AV} (h:dK pk v):nf v:=by
 cases pk with
 | str=>obtain⟨l,n,rfl⟩:=h; exact jc _ _
 | mf=>obtain⟨l,n,rfl,_⟩:=h; exact jc _ _
 | pair=>obtain⟨a,b,c,d,rfl⟩:=h; exact wA (dS (jc _ _) (dS (jc _ _) hY))
 | int=>obtain⟨n,rfl⟩:=h; exact mc _ _
 | iD=>obtain⟨a,b,rfl⟩:=h; exact wA (dS (mc _ _) (dS (mc _ _) hY))
 | u9=>obtain⟨l,n,z,b,rfl⟩:=h; exact wA (dS (jc _ _) (dS (mc _ _) (dS (iL _) hY)))
structure lC (P:Program) (kt:TypeId) (pk:KK):Prop where
 Mp:∃d,P.underlying kt=some d
 eq:∀a b,dK pk a->dK pk b->tV P 9 kt a b (aY a b)
 zF:∀v,dK pk v->∀e ι w,(Instr.checkKey e 10000 kt (aj ι v)).run P w=.ok () w
theorem HG {pk:KK} {a b:AV} (ha:dK pk a) (hb:dK pk b) (h:aY a b=true):nq a b=true:=by
 cases pk with
 | str=>obtain⟨l,n,rfl⟩:=ha; obtain⟨l',n',rfl⟩:=hb; exact h
 | mf=>obtain⟨l,n,rfl,_⟩:=ha; obtain⟨l',n',rfl,_⟩:=hb; exact h
 | pair =>
   obtain⟨a,b,c,d,rfl⟩:=ha; obtain⟨a',b',c',d',rfl⟩:=hb
   have h:(aO a b a' b'&&aO c d c' d')=true:=h
   show (aO a b a' b'&&(aO c d c' d'&&true))=true
   rw [Bool.and_true]; exact h
 | int =>
   obtain⟨n,rfl⟩:=ha; obtain⟨n',rfl⟩:=hb
   have h:(n==n')=true:=h
   rw [beq_iff_eq] at h; subst h
   simp [nq,rF,dO]
 | iD =>
   obtain⟨a,b,rfl⟩:=ha; obtain⟨a',b',rfl⟩:=hb
   have h:(a==a'&&b==b')=true:=h
   rw [Bool.and_eq_true,beq_iff_eq,beq_iff_eq] at h
   obtain⟨rfl,rfl⟩:=h
   simp [nq,ur,rF,dO]
 | u9 =>
   obtain⟨a,b,n,p,rfl⟩:=ha; obtain⟨a',b',n',p',rfl⟩:=hb
   have h:(aO a b a' b'&&(n==n'&&p==p'))=true:=h
   rw [Bool.and_eq_true,Bool.and_eq_true,beq_iff_eq,beq_iff_eq] at h
   obtain⟨h1,rfl,rfl⟩:=h
   simp [nq,ur,rF,dO,h1]
theorem jh (l n l' n':Nat):aO l n l' n'=aO l' n' l n:=by
 rw [dz,dz]; exact Bool.eq_iff_iff.2 ⟨fun h=>by rw [beq_iff_eq] at h ⊢; exact h.symm,fun h=>by rw [beq_iff_eq] at h ⊢; exact h.symm⟩
theorem gX (l n:Nat):aO l n l n=true:=by rw [dz]; simp
theorem il {l n l' n' l2 n2:Nat} (h:aO l n l' n'=true):aO l n l2 n2=aO l' n' l2 n2:=by
 rw [dz,beq_iff_eq] at h
 rw [dz,dz,h]
theorem Av {pk:KK} {a:AV} (ha:dK pk a):aY a a=true:=by
 cases pk with
 | str=>obtain⟨l,n,rfl⟩:=ha; exact gX _ _
 | mf=>obtain⟨l,n,rfl,_⟩:=ha; exact gX _ _
 | pair=>obtain⟨a,b,c,d,rfl⟩:=ha; show (aO a b a b&&aO c d c d)=true; rw [gX,gX]; rfl
 | int=>obtain⟨n,rfl⟩:=ha; show (n==n)=true; simp
 | iD=>obtain⟨a,b,rfl⟩:=ha; show (a==a&&b==b)=true; simp
 | u9=>obtain⟨a,b,n,p,rfl⟩:=ha; show (aO a b a b&&(n==n&&p==p))=true; rw [gX]; simp
theorem sQ {pk:KK} {a b:AV} (ha:dK pk a) (hb:dK pk b):aY a b=aY b a:=by
 cases pk with
 | str=>obtain⟨l,n,rfl⟩:=ha; obtain⟨l',n',rfl⟩:=hb; exact jh _ _ _ _
 | mf=>obtain⟨l,n,rfl,_⟩:=ha; obtain⟨l',n',rfl,_⟩:=hb; exact jh _ _ _ _
 | pair =>
   obtain⟨a,b,c,d,rfl⟩:=ha; obtain⟨a',b',c',d',rfl⟩:=hb
   show (aO a b a' b'&&aO c d c' d')=(aO a' b' a b&&aO c' d' c d)
   rw [jh a,jh c]
 | int=>obtain⟨n,rfl⟩:=ha; obtain⟨n',rfl⟩:=hb; exact BEq.comm
 | iD=>obtain⟨a,b,rfl⟩:=ha; obtain⟨a',b',rfl⟩:=hb; show (a==a'&&b==b')=(a'==a&&b'==b); rw [BEq.comm (a:=a),BEq.comm (a:=b)]
 | u9=>obtain⟨a,b,n,p,rfl⟩:=ha; obtain⟨a',b',n',p',rfl⟩:=hb; show (aO a b a' b'&&(n==n'&&p==p'))=(aO a' b' a b&&(n'==n&&p'==p)); rw [jh a,BEq.comm (a:=n),BEq.comm (a:=p)]
theorem jx {pk:KK} {a b x:AV} (ha:dK pk a) (hb:dK pk b) (hx:dK pk x) (h:aY a b=true):aY a x=aY b x:=by
 cases pk with
 | str=>obtain⟨l,n,rfl⟩:=ha; obtain⟨l',n',rfl⟩:=hb; obtain⟨l2,n2,rfl⟩:=hx; exact il h
 | mf=>obtain⟨l,n,rfl,_⟩:=ha; obtain⟨l',n',rfl,_⟩:=hb; obtain⟨l2,n2,rfl,_⟩:=hx; exact il h
 | pair =>
   obtain⟨a,b,c,d,rfl⟩:=ha; obtain⟨a',b',c',d',rfl⟩:=hb; obtain⟨a2,b2,c2,d2,rfl⟩:=hx
   have h:(aO a b a' b'&&aO c d c' d')=true:=h
   rw [Bool.and_eq_true] at h
   show (aO a b a2 b2&&aO c d c2 d2)=(aO a' b' a2 b2&&aO c' d' c2 d2)
   rw [il h.1,il h.2]
 | int =>
   obtain⟨n,rfl⟩:=ha; obtain⟨n',rfl⟩:=hb; obtain⟨n2,rfl⟩:=hx
   have h:(n==n')=true:=h
   rw [beq_iff_eq] at h; subst h; rfl
 | iD =>
   obtain⟨a,b,rfl⟩:=ha; obtain⟨a',b',rfl⟩:=hb; obtain⟨a2,b2,rfl⟩:=hx
   have h:(a==a'&&b==b')=true:=h
   rw [Bool.and_eq_true,beq_iff_eq,beq_iff_eq] at h
   obtain⟨rfl,rfl⟩:=h; rfl
 | u9 =>
   obtain⟨a,b,n,p,rfl⟩:=ha; obtain⟨a',b',n',p',rfl⟩:=hb; obtain⟨a2,b2,n2,p2,rfl⟩:=hx
   have h:(aO a b a' b'&&(n==n'&&p==p'))=true:=h
   rw [Bool.and_eq_true,Bool.and_eq_true,beq_iff_eq,beq_iff_eq] at h
   obtain⟨h1,rfl,rfl⟩:=h
   show (aO a b a2 b2&&(n==n2&&p==p2))=(aO a' b' a2 b2&&(n==n2&&p==p2))
   rw [il h1]
def cq (k:AV):List (AV × AV)->Option AV
 | []=>none
 | p::es=>bif aY k p.1 then some p.2 else cq k es
def c7 (k v:AV):List (AV × AV)->List (AV × AV)
 | []=>[(k,v)]
 | p::es=>bif aY k p.1 then (p.1,v)::es else p::c7 k v es
theorem va {pk:KK} {k v x:AV} (hk:dK pk k) (hx:dK pk x):∀{es:List (AV × AV)},(∀p∈es,dK pk p.1)->cq x (c7 k v es)=if aY x k=true then some v else cq x es
 | [],_=>by
   show (bif aY x k then some v else none)=_
   cases aY x k<;>rfl
 | p::es,h=>by
   have hp:=h p (List.mem_cons_self ..)
   have ih:=va hk hx (v:=v) (es:=es) fun q hq=>h q (List.mem_cons_of_mem _ hq)
   have hs:aY k p.1=true->aY x k=aY x p.1:=fun e=>by
    rw [sQ hx hk,sQ hx hp]
    exact jx hk hp hx e
   cases hkp:aY k p.1 with
   | true =>
     have e1:c7 k v (p::es)=(p.1,v)::es:=by show (bif aY k p.1 then _ else _)=_; rw [hkp]; rfl
     rw [e1,hs hkp]
     show (bif aY x p.1 then some v else cq x es)=if aY x p.1=true then some v else bif aY x p.1 then some p.2 else cq x es
     cases aY x p.1<;>rfl
   | false =>
     have e1:c7 k v (p::es)=p::c7 k v es:=by show (bif aY k p.1 then _ else _)=_; rw [hkp]; rfl
     rw [e1]
     show (bif aY x p.1 then some p.2 else cq x (c7 k v es))=if aY x k=true then some v else bif aY x p.1 then some p.2 else cq x es
     rw [ih]
     cases hxp:aY x p.1 with
     | true =>
       have:aY x k=false:=by
        cases hxk:aY x k with
        | false=>rfl
        | true =>
          have:=jx hx hk hp hxk
          rw [hxp,hkp] at this; cases this
       rw [this]; rfl
     | false=>cases aY x k<;>rfl
theorem eV {pk:KK} {k v:AV} (hk:dK pk k):∀{es:List (AV × AV)},(∀p∈es,dK pk p.1)->∀p∈c7 k v es,dK pk p.1
 | [],_,p,h=>by rw [List.mem_singleton.1 h]; exact hk
 | q::es,h0,p,h=>by
   have h:p∈(bif aY k q.1 then (q.1,v)::es else q::c7 k v es):=h
   cases hq:aY k q.1 with
   | true =>
     rw [hq] at h
     rcases List.mem_cons.1 h with rfl | h
     · exact h0 q (List.mem_cons_self ..)
     · exact h0 p (List.mem_cons_of_mem _ h)
   | false =>
     rw [hq] at h
     rcases List.mem_cons.1 h with rfl | h
     · exact h0 _ (List.mem_cons_self ..)
     · exact eV hk (fun r hr=>h0 r (List.mem_cons_of_mem _ hr)) p h
theorem fH {k v:AV}:∀{es:List (AV × AV)} {p:AV × AV},p∈c7 k v es->p.2=v∨p∈es
 | [],p,h=>by rw [List.mem_singleton.1 h]; exact .inl rfl
 | q::es,p,h=>by
   have h:p∈(bif aY k q.1 then (q.1,v)::es else q::c7 k v es):=h
   cases hq:aY k q.1 with
   | true =>
     rw [hq] at h
     rcases List.mem_cons.1 h with rfl | h
     · exact .inl rfl
     · exact .inr (List.mem_cons_of_mem _ h)
   | false =>
     rw [hq] at h
     rcases List.mem_cons.1 h with rfl | h
     · exact .inr (List.mem_cons_self ..)
     · exact (fH h).imp_right (List.mem_cons_of_mem _)
theorem mU {k v:AV}:∀{es:List (AV × AV)},cq k es=some v->∃p∈es,p.2=v
 | [],h=>by cases h
 | p::es,h=>by
   have h:(bif aY k p.1 then some p.2 else cq k es)=some v:=h
   cases hq:aY k p.1 with
   | true=>rw [hq] at h; exact⟨p,List.mem_cons_self ..,Option.some.inj h⟩
   | false =>
     rw [hq] at h
     obtain⟨q,h1,h2⟩:=mU h
     exact⟨q,List.mem_cons_of_mem _ h1,h2⟩
def qP:List (AV × AV)->List MapEntry->List ME
 | p::es,e::E=>⟨p.1,p.2,e.born⟩::qP es E
 | _,_=>[]
theorem sU:∀{es:List (AV × AV)} {E:List MapEntry} {ι:En},E.map (fun e=>(e.key,e.val))=es.map (fun e=>(aj ι e.1,aj ι e.2))->E=(qP es E).map (c6 ι)/\(qP es E).map (fun e=>(e.key,e.val))=es
 | [],[],_,_=>⟨rfl,rfl⟩
 | [],_::_,_,h=>by cases h
 | _::_,[],_,h=>by cases h
 | p::es,e::E,ι,h=>by
   rw [List.map_cons,List.map_cons,List.cons.injEq] at h
   obtain⟨h1,h2⟩:=h
   obtain⟨i1,i2⟩:=sU h2
   rw [Prod.mk.injEq] at h1
   refine⟨?_,by show (p.1,p.2)::_=_; rw [i2]⟩
   show e::E=c6 ι ⟨p.1,p.2,e.born⟩::(qP es E).map (c6 ι)
   rw [<-i1]
   congr 1
   cases e with
   | mk k v b=>simp only [c6] at h1 ⊢; rw [h1.1,h1.2]
theorem nZ {P:Program} {kt:TypeId} {pk:KK} {k:AV} (hM:lC P kt pk) (hk:dK pk k):∀{es:List ME},(∀e∈es,dK pk e.key)->cq k (es.map fun e=>(e.key,e.val))=none->Found P kt k es none
 | [],_,_=>fun e he=>by cases he
 | x::es,h0,h=>by
   have h:(bif aY k x.key then some x.val else cq k (es.map fun e=>(e.key,e.val)))=none:=h
   cases hq:aY k x.key with
   | true=>rw [hq] at h; cases h
   | false =>
     rw [hq] at h
     intro e he
     rcases List.mem_cons.1 he with rfl | he
     · rw [<-hq]; exact hM.eq _ _ hk (h0 _ (List.mem_cons_self ..))
     · exact nZ hM hk (fun e he=>h0 e (List.mem_cons_of_mem _ he)) h e he
theorem n5 {P:Program} {kt:TypeId} {pk:KK} {k v:AV} (hM:lC P kt pk) (hk:dK pk k):∀{es:List ME},(∀e∈es,dK pk e.key)->cq k (es.map fun e=>(e.key,e.val))=some v ->
  ∃pre e post,es=pre++e::post/\e.val=v/\aY k e.key=true/\(∀x∈pre,aY k x.key=false)/\Found P kt k es (some (pre.length,e))
 | [],_,h=>by cases h
 | x::es,h0,h=>by
   have h:(bif aY k x.key then some x.val else cq k (es.map fun e=>(e.key,e.val)))=some v:=h
   cases hq:aY k x.key with
   | true =>
     rw [hq] at h
     exact⟨[],x,es,rfl,Option.some.inj h,hq,(fun _ h=>by cases h),[],es,rfl,rfl,(fun _ h=>by cases h),by rw [<-hq]; exact hM.eq _ _ hk (h0 _ (List.mem_cons_self ..))⟩
   | false =>
     rw [hq] at h
     obtain⟨pre,e,post,h1,h2,h3,h4,pre',post',h5,h6,h7,h8⟩:=n5 hM hk (fun e he=>h0 e (List.mem_cons_of_mem _ he)) h
     have hn:tV P 9 kt k x.key false:=by rw [<-hq]; exact hM.eq _ _ hk (h0 _ (List.mem_cons_self ..))
     refine⟨x::pre,e,post,by rw [h1]; rfl,h2,h3,fun y hy=>?_,x::pre',post',by rw [h5]; rfl,by rw [List.length_cons,List.length_cons,h6],fun y hy=>?_,h8⟩
     · rcases List.mem_cons.1 hy with rfl | hy
       · exact hq
       · exact h4 y hy
     · rcases List.mem_cons.1 hy with rfl | hy
       · exact hn
       · exact h7 y hy
theorem mg {k v:AV}:∀{es:List (AV × AV)},cq k es=none->c7 k v es=es++[(k,v)]
 | [],_=>rfl
 | p::es,h=>by
   have h:(bif aY k p.1 then some p.2 else cq k es)=none:=h
   show (bif aY k p.1 then (p.1,v)::es else p::c7 k v es)=_
   cases hq:aY k p.1 with
   | true=>rw [hq] at h; cases h
   | false=>rw [hq] at h; rw [cond_false,mg h]; rfl
theorem yR {k v:AV}:∀{pre post:List (AV × AV)} {e:AV × AV},(∀x∈pre,aY k x.1=false)->aY k e.1=true->c7 k v (pre++e::post)=pre++(e.1,v)::post
 | [],post,e,_,h=>by show (bif aY k e.1 then _ else _)=_; rw [h]; rfl
 | p::pre,post,e,h0,h=>by
   show (bif aY k p.1 then _ else p::c7 k v (pre++e::post))=_
   rw [h0 p (List.mem_cons_self ..),cond_false,yR (fun x hx=>h0 x (List.mem_cons_of_mem _ hx)) h]; rfl
section
variable {P:Program} {n0 nt:Nat} {T T2:Tm} {hp H:Tr AO} {nx X:Pz} {G:GH} {ops:Array Oper} {aG:List Nat} {i m d:Nat} {v u:AV}
theorem aZ.lookup {t kt et:TypeId} {ym yk:Operand} {ok:Bool} {pk:KK} {z k:AV} {b:Nat} {es:List (AV × AV)} (hg:(ab ops i).guard=none) (ho:(ab ops i).op=.lookup t ym yk ok) (hu:P.underlying t=some (.map kt et)) (hz:zeroOf P et=some z) (hM:lC P kt pk)
  (hm:ba nt T ym (.dG b)) (hk:ba nt T yk k) (hkf:dK pk k) (hb:G b=some (.map es)) (hes:∀p∈es,dK pk p.1) :
  aZ P ops n0 nt i T hp nx G (match cq k es with | some v=>(if ok then .cu [v,.bool true] else v) | none=>(if ok then .cu [z,.bool false] else z)):=by
 refine bQ hg fun B w0 ι a w hs=>?_
 have hval:=(hs.1.2 ι (al.refl _ _)).1
 obtain⟨_,E,clock,h1,h2,h3,_⟩:=hs.2.1 b _ hb
 obtain⟨i1,i2⟩:=sU (h3 ι)
 obtain⟨dd,hd⟩:=hM.Mp
 obtain⟨_,zv,_,_,_,hzero⟩:=cm hz
 have hkeys:∀e∈qP es E.toList,dK pk e.key:=fun e he=>by
  have:(e.key,e.val)∈(qP es E.toList).map (fun e=>(e.key,e.val)):=List.mem_map.2 ⟨e,he,rfl⟩
  rw [i2] at this
  exact hes _ this
 simp only [execOp,ho,Sem.run_bind]
 rw [hm ι a hval,hk ι a hval]
 cases hf:cq k es with
 | none =>
   have hfind:=e7 (ι:=ι) (w:=w) hd (nZ hM hkf hkeys (by rw [i2]; exact hf))
   rw [<-i1] at hfind
   simp only [aj,Instr.lookup,Sem.run_bind,av hu,Result.andThen_ok,bH h1,Sem.run_pure,hM.zF k hkf,hfind,ei,hzero ι]
   cases ok<;>simp [aj,ao]
 | some v =>
   obtain⟨pre,e,post,e1,e2,e3,e4,hfd⟩:=n5 hM hkf hkeys (by rw [i2]; exact hf)
   have hfind:=e7 (ι:=ι) (w:=w) hd hfd
   rw [<-i1] at hfind
   subst e2
   simp only [aj,Instr.lookup,Sem.run_bind,av hu,Result.andThen_ok,bH h1,Sem.run_pure,hM.zF k hkf,hfind,ei,hzero ι]
   cases ok<;>simp [aj,ao]
theorem vb {w:World} {b k:Nat} {E:Array MapEntry} {cl:Nat} (h:k≠b):(iZ w b E cl).heap[k]?=w.heap[k]?:=by
 show (w.heap.setIfInBounds _ _)[k]?=_
 rw [Array.getElem?_setIfInBounds_ne (fun e=>h e.symm)]
theorem sW {α β:Type} {g:α->β} {f:α->α} (h:∀x,g (f x)=g x):∀{l:List α} {i:Nat},(l.modify i f).map g=l.map g
 | [],i=>by cases i<;>rfl
 | x::l,0=>by show g (f x)::l.map g=g x::l.map g; rw [h]
 | x::l,i+1=>by show g x::(l.modify i f).map g=g x::l.map g; rw [sW h]
theorem pq {k v v0:AV}:∀{es:List (AV × AV)},cq k es=some v0->(c7 k v es).length=es.length
 | [],h=>by cases h
 | p::es,h=>by
   have h:(bif aY k p.1 then some p.2 else cq k es)=some v0:=h
   show (bif aY k p.1 then (p.1,v)::es else p::c7 k v es).length=_
   cases hq:aY k p.1 with
   | true=>rfl
   | false=>rw [hq] at h; rw [cond_false,List.length_cons,List.length_cons,pq h]
theorem eZ.wD {t kt et:TypeId} {ym yk yv:Operand} {pk:KK} {k:AV} {b:Nat} {es:List (AV × AV)} {R:Tm->Tr AO->Pz->GH->Prop} (hg:(ab ops i).guard=none) (hd0:(ab ops i).dst=none) (ho:(ab ops i).op=.mapUpdate t ym yk yv) (hu:P.underlying t=some (.map kt et)) (hM:lC P kt pk)
  (hm:ba nt T ym (.dG b)) (hk:ba nt T yk k) (hx:ba nt T yv v) (hkf:dK pk k) (hnf:nf v) (hb:G b=some (.map es)) (hes:∀p∈es,dK pk p.1)
  (hr:R T hp nx (eH G b (.map (c7 k v es)))):eZ P n0 nt ops i T hp nx G R:=by
 intro B w0 ι a w hs
 refine .inl ⟨by simp [Region.wanted,hg],?_⟩
 rw [hd0]
 have hval:=(hs.1.2 ι (al.refl _ _)).1
 obtain⟨hnB,E,clock,h1,h2,h3,h5,h6⟩:=hs.2.1 b _ hb
 obtain⟨i1,i2⟩:=sU (h3 ι)
 obtain⟨dd,hd⟩:=hM.Mp
 have hkeys:∀e∈qP es E.toList,dK pk e.key:=fun e he=>by
  have:(e.key,e.val)∈(qP es E.toList).map (fun e=>(e.key,e.val)):=List.mem_map.2 ⟨e,he,rfl⟩
  rw [i2] at this
  exact hes _ this
 have hnb:∀id ob,hp.get id=some ob->own hp ob->ι.aR id≠b:=fun id ob hid hown e=>by
  have:=hs.2.2.1 id ob hid hown
  rw [e,hb] at this; cases this
 have hlt:=(Array.getElem?_eq_some_iff.1 h1).1
 -- what the write leaves
 have done:∀(E':Array MapEntry) (cl':Nat),(execOp a.eval (ab ops i)).run P w=.ok .skip (iZ w b E' cl')->E'.toList.map (fun e=>(e.key,e.val))=(c7 k v es).map (fun e=>(aj ι e.1,aj ι e.2))->E'.toList.map (fun e=>e.born)=List.range (c7 k v es).length->cl'=(c7 k v es).length ->
   dk P (execOp a.eval (ab ops i)) w fun cv w'=>∃T' hp' nx' G' ι2,R T' hp' nx' G'/\du n0 B w0 nt T' hp' nx' G' ι2 (a.put none cv) w':=by
  intro E' cl' hrun hE' hB' hC'
  have hkept:Kept (fun k=>B k∨sM hp ι k) w (iZ w b E' cl'):=by
   refine⟨rfl,rfl,rfl,by simp [iZ],fun q hq=>vb (fun e=>?_)⟩
   subst e
   rcases hq with hB | ⟨id,ob,hid,hown,e⟩
   · exact hnB hB
   · exact hnb id ob hid hown e
  have hnf2:∀e∈c7 k v es,nf e.1/\nf e.2:=fun e he=>by
   refine⟨(eV hkf hes e he).nf,?_⟩
   rcases fH he with h | h
   · rw [h]; exact hnf
   · exact (h2 e h).2
  have hgh:nY B (iZ w b E' cl') b (.map (c7 k v es)):=by
   refine⟨hnB,E',cl',?_,hnf2,fun ι'=>?_,hB',hC'⟩
   · show (w.heap.setIfInBounds _ _)[b]?=_
     simp [hlt]
   · rw [hE']
     refine List.map_congr_left fun e he=>?_
     rw [(hnf2 e he).1 ι ι',(hnf2 e he).2 ι ι']
  have hsn:=j0 (b:=b) (g:=.map (c7 k v es)) hs hkept (fun q g' hne _=>vb hne) hgh hnb
  exact .inl ⟨undef,_,.inr ⟨hrun,rfl⟩,_,_,_,_,ι,hr,hsn⟩
 cases hf:cq k es with
 | none =>
   have hfind:=e7 (ι:=ι) (w:=w) hd (nZ hM hkf hkeys (by rw [i2]; exact hf))
   rw [<-i1] at hfind
   refine done (E.push ⟨aj ι k,aj ι v,clock⟩) (clock+1) ?_ ?_ (by rw [mg hf,Array.toList_push,List.map_append,h5,List.length_append,List.length_singleton,List.range_succ,h6]; rfl) (by rw [mg hf,List.length_append,List.length_singleton,h6])
   · simp only [execOp,ho,Sem.run_bind]
     rw [hm ι a hval,hk ι a hval,hx ι a hval]
     simp only [aj,Instr.mapUpdate,Sem.run_bind,av hu,Result.andThen_ok,bH h1,hM.zF k hkf,hfind,ei,ej h1,Sem.run_pure]
   · rw [mg hf,Array.toList_push,List.map_append,List.map_append,h3 ι]; rfl
 | some v0 =>
   obtain⟨pre,e,post,e1,e2,e3,e4,hfd⟩:=n5 hM hkf hkeys (by rw [i2]; exact hf)
   have hfind:=e7 (ι:=ι) (w:=w) hd hfd
   rw [<-i1] at hfind
   have hat:=sr hfd
   obtain⟨hb1,hb2⟩:=sn (HG (hkeys e (by rw [e1]; simp)) hkf (by
    have:=jx hkf (hkeys e (by rw [e1]; simp)) hkf e3
    rw [Av hkf] at this; exact this.symm)) ι
   refine done (E.modify pre.length fun y=>{ y with key:=aj ι k,val:=aj ι v }) clock ?_ ?_ (by rw [Array.toList_modify]; exact (sW (g:=fun e:MapEntry=>e.born) (f:=fun y=>{ y with key:=aj ι k,val:=aj ι v }) fun _=>rfl).trans (by rw [h5,pq hf])) (by rw [pq hf,h6])
   · simp only [execOp,ho,Sem.run_bind]
     rw [hm ι a hval,hk ι a hval,hx ι a hval]
     simp only [aj,Instr.mapUpdate,Sem.run_bind,av hu,Result.andThen_ok,bH h1,hM.zF k hkf,hfind,ei,Nat.zero_add,Od i1 hat,Option.map_some,Option.getD_some,Instr.keyThatStays]
     rw [show (c6 ι e).key=aj ι e.key from rfl,hb2]
     simp only [if_true,Sem.run_pure,Result.andThen_ok,ej h1]
   · rw [oZ _ _ _ _ i1,lZ ι v _ _ _ e hat hb1.symm]
     have:es=pre.map (fun e=>(e.key,e.val))++(e.key,e.val)::post.map (fun e=>(e.key,e.val)):=by rw [<-i2,e1]; simp
     have hput:c7 k v es=pre.map (fun e=>(e.key,e.val))++(e.key,v)::post.map (fun e=>(e.key,e.val)):=by
      rw [this]; exact yR (fun x hx=>by obtain⟨y,hy,rfl⟩:=List.mem_map.1 hx; exact e4 y hy) e3
     rw [hput,e1]
     simp [c6]
     rfl
end
end Go.aQ
namespace Go.aQ
open Go.RowKit
section
variable {P:Program} {n0 nt:Nat} {T T2:Tm} {hp H:Tr AO} {nx X:Pz} {G:GH} {ops:Array Oper} {aG:List Nat} {i m d:Nat} {v u:AV}
theorem aZ.HH {t:TypeId} {yx yi:Operand} {kd:IntKind} {l n j:Nat} (hg:(ab ops i).guard=none) (ho:(ab ops i).op=.index t yx yi) (hu:P.underlying t=some .string) (hx:ba nt T yx (.str l n)) (hi:ba nt T yi (.int kd (.ofNat j))) (hlt:j<l) :
  aZ P ops n0 nt i T hp nx G (.int .u8 (.ofNat (Nat.mod (Nat.div n (lG (Nat.sub l (j+1)))) 256))):=by
 refine bQ hg fun B w0 ι a w hs=>?_
 have ha:=(hs.1.2 ι (al.refl _ _)).1
 simp only [execOp,ho]
 rw [hx ι a ha,hi ι a ha,dN,dN]
 simp only [aj,Instr.index,asIntOf,Sem.run_bind,Sem.run_pure,Result.andThen_ok,av hu]
 have hget:(ByteArray.mk (bytesOf l n).toArray)[j]?=some (UInt8.ofNat (n/256 ^ (l-(j+1))%256)):=by
  have:=lS l n j hlt
  have hsz:j<(ByteArray.mk (bytesOf l n).toArray).size:=by show j<(bytesOf l n).toArray.size; simp [aA,hlt]
  rw [getElem?_pos _ j hsz]
  have hsz':j<(bytesOf l n).length:=by rw [aA]; exact hlt
  rw [List.getElem?_eq_getElem hsz'] at this
  rw [<-Option.some.inj this]
  rfl
 rw [if_pos (by omega)]
 simp only [Int.toNat_natCast,hget,Sem.run_pure,Result.andThen_ok]
 rw [iK]
 congr 4
 simp only [UInt8.toNat_ofNat']
 show n/256 ^ (l-(j+1))%256%2 ^ 8=n/256 ^ (l-(j+1))%256
 omega
theorem HI {x h d0:Nat} {kd:IntKind} (hx:T.at x=.int kd (.ofNat h)):Bd T (some (.tmp x)) d0 h:=.inr ⟨.tmp x,kd,rfl,fun ι nt a ha=>by
 show a.tmps.getD x undef=_
 rw [ha.val x,hx,dN]⟩
theorem aZ.Ru {t:TypeId} {yx:Operand} {x l n h:Nat} {kd:IntKind} (hg:(ab ops i).guard=none) (ho:(ab ops i).op=.slice t yx none (some (.tmp x)) none) (hu:P.underlying t=some .string) (hx:ba nt T yx (.str l n)) (hh:T.at x=.int kd (.ofNat h)) (hle:h<=l) :
  aZ P ops n0 nt i T hp nx G (.str h (Nat.div n (lG (Nat.sub l h)))):=by
 refine bQ hg fun B w0 ι a w hs=>?_
 have ha:=(hs.1.2 ι (al.refl _ _)).1
 have hsz:(ByteArray.mk (bytesOf l n).toArray).size=l:=by show (bytesOf l n).toArray.size=l; simp [aA]
 have hb:=iR (P:=P) (w:=w) (lo:=none) (hi:=some (.tmp x)) (b:=false) (len:=l) (cap:=l) ha (HI hh) (.inl ⟨rfl,rfl⟩) (Nat.zero_le h) hle
 simp only [Option.map_none,Option.map_some] at hb
 simp only [execOp,ho]
 rw [hx ι a ha]
 simp only [aj,Option.map_none,Option.map_some,Instr.sliceAt,Instr.slice,Sem.run_bind,av hu,Result.andThen_ok,Option.isSome_none,Bool.false_eq_true,if_false,Sem.run_pure]
 rw [hsz,hb]
 simp only [Result.andThen_ok,Sem.run_pure,Result.ok.injEq,and_true,Next.value.injEq,Value.string.injEq]
 apply ByteArray.ext
 rw [ByteArray.data_extract]
 apply Array.ext'
 simp only [Array.toList_extract,iK]
 have e1:bytesOf h (n/256 ^ (l-h))=(bytesOf l n).take h:=by
  have:=kG (l-h) h n
  rw [show h+(l-h)=l by omega] at this
  exact this
 show _=bytesOf h (n/256 ^ (l-h))
 rw [e1]
 simp
theorem aZ.UZ {t el:TypeId} {yx:Operand} {x b len cap h:Nat} {kd:IntKind} (hg:(ab ops i).guard=none) (ho:(ab ops i).op=.slice t yx none (some (.tmp x)) none) (hu:P.underlying t=some (.slice el)) (hi:(P.info? el).isSome=true) (hx:ba nt T yx (.di b 0 len cap)) (hh:T.at x=.int kd (.ofNat h)) (hle:h<=cap) :
  aZ P ops n0 nt i T hp nx G (.di b 0 h cap):=by
 refine bQ hg fun B w0 ι a w hs=>?_
 have ha:=(hs.1.2 ι (al.refl _ _)).1
 obtain⟨k,hk⟩:=Option.isSome_iff_exists.1 hi
 have hb:=iR (P:=P) (w:=w) (lo:=none) (hi:=some (.tmp x)) (b:=true) (len:=len) (cap:=cap) ha (HI hh) (.inl ⟨rfl,rfl⟩) (Nat.zero_le h) hle
 simp only [Option.map_none,Option.map_some] at hb
 simp only [execOp,ho]
 rw [hx ι a ha]
 simp only [aj,gh,Option.map_none,Option.map_some,Sem.run_bind]
 rcases nR hu (b:=b) (q:=0) hb with e | e
 · rw [e]
   by_cases hc:cap=0
   · rw [if_pos hc]; simp
   · rw [if_neg hc]; simp
 · rw [e] at hk; cases hk
theorem rm {g:Gh} {y:Obj} {B:Nat->Prop} {w0 w:World} {ι:En} {a:Act} (hs:du n0 B w0 nt T hp nx G ι a w) (hgh:(∀k,B k->k<w.heap.size)->nY B (w.alloc y) w.heap.size g) :
  du n0 B w0 nt T hp nx (eH G w.heap.size g) ι a (w.alloc y)/\n0<=w.heap.size/\G w.heap.size=none:=by
 have c0:=(hs.1.2 ι (al.refl _ _)).2
 have hroom:∀k,(B k∨sM hp ι k)->k<w.heap.size:=fun k hk=>by
  rcases hk with hk | ⟨id,o,hid,hown,rfl⟩
  · exact c0.room k hk
  · exact po hs id o hid hown
 refine⟨j0 hs ((Kept.refl _ _).alloc (fun k hk=>hroom k hk) _) (fun k g' hne hk=>Below.heap_alloc _ _ _ (hs.2.1 k g' hk).lt) (hgh fun k hk=>hroom k (.inl hk)) (fun id o hid hown e=>?_),hs.2.2.2.1,?_⟩
 · have:=po hs id o hid hown
   omega
 · cases hg:G w.heap.size with
   | none=>rfl
   | some g=>exact absurd (hs.2.1 _ _ hg).lt (by omega)
theorem eZ.BQ {t:TypeId} {R:Tm->Tr AO->Pz->GH->Prop} (hg:(ab ops i).guard=none) (hd:(ab ops i).dst=some d) (hlt:d<nt) (ho:(ab ops i).op=.makeMap t none)
  (hr:∀b,n0<=b->G b=none->R (T.put d (.dG b)) hp nx (eH G b (.map []))):eZ P n0 nt ops i T hp nx G R:=by
 intro B w0 ι a w hs
 refine .inl ⟨by simp [Region.wanted,hg],?_⟩
 rw [hd]
 have hrun:(execOp a.eval (ab ops i)).run P w=.ok (.value (.map (some w.heap.size))) (w.alloc (.map #[] 0)):=by
  simp only [execOp,ho,Option.map_none,Sem.run_bind]
  rw [show (Instr.makeMap t none).run P w=.ok (.map (some w.heap.size)) (w.alloc (.map #[] 0)) from rfl]
  rfl
 obtain⟨h1,h2,h3⟩:=rm (g:=.map []) (y:=.map #[] 0) hs fun hB=>⟨fun h=>absurd (hB _ h) (by omega),#[],0,bJ w _,(fun e h=>by cases h),(fun ι=>rfl),rfl,rfl⟩
 exact .inl ⟨_,_,.inl hrun,_,_,_,_,ι,hr _ h2 h3,dD h1 hlt (wz _) (by simp [aj])⟩
end
end Go.aQ
namespace Go.aQ
open Go.RowKit
section
variable {P:Program} {n0 nt:Nat} {T T2:Tm} {hp H:Tr AO} {nx X:Pz} {G:GH} {ops:Array Oper} {aG:List Nat} {i m d:Nat} {v u:AV} {call:bx}
theorem eZ.wE {kd:BK} (hkd:kd≠.raw) {t el:TypeId} {x b o size n:Nat} {y:Operand} {C:List AV} {R:Tm->Tr AO->Pz->GH->Prop} (hg:(ab ops i).guard=none) (hd:(ab ops i).dst=none) (ho:(ab ops i).op=.store t (.tmp x) y) (hx:T.at x=.bW b o) (hy:ba nt T y u)
  (hi:(P.info? t).isSome=true) (hn:ae P t=n) (hl:u.cells.length=n) (hfl:flat u.cells=true) (hnf:mP u.cells) (hb:G b=some (.cells kd el size C)) (hle:o+n<=C.length)
  (hr:R T hp nx (eH G b (.cells kd el size (ub C o u.cells)))):eZ P n0 nt ops i T hp nx G R:=by
 intro B w0 ι a w hsat
 refine .inl ⟨by simp [Region.wanted,hg],?_⟩
 rw [hd]
 obtain⟨j,hj⟩:=Option.isSome_iff_exists.1 hi
 have hval:=(hsat.1.2 ι (al.refl _ _)).1
 obtain⟨hnC,A,fz,h1,h2,h3,h4,h5⟩:=hsat.2.1 b _ hb
 obtain⟨hnB,hfz⟩:=h5 hkd
 have hnb:∀id ob,hp.get id=some ob->own hp ob->ι.aR id≠b:=fun id ob hid hown e=>by
  have:=hsat.2.2.1 id ob hid hown
  rw [e,hb] at this; cases this
 have hrl:(ao ι u.cells).length=n:=by rw [aq,hl]
 have hcan:kI w b o (ao ι u.cells).length:=by rw [hrl]; exact jQ h1 (by omega) hfz
 have hrun:(execOp a.eval (ab ops i)).run P w=.ok .skip (bg w b o (ao ι u.cells)):=by
  simp only [execOp,ho]
  rw [jg hsat x hx,hy ι a hval]
  simp only [aj,Instr.storeAt,Instr.sureAddr,storeVar,Sem.run_bind,Sem.run_pure,Result.andThen_ok,cO hj]
  rw [bL,if_neg (by simp [hrl,hn])]
  rw [gC _ _ _ 0 w (iQ ι _ hfl) (by rw [Nat.add_zero]; exact hcan)]
  simp
 have hk:Kept (fun k=>B k∨sM hp ι k) w (bg w b o (ao ι u.cells)):=dP _ _ _ _ (by
  rintro (hB | ⟨id,ob,hid,hown,e⟩)
  · exact hnB hB
  · exact hnb id ob hid hown e) (Kept.refl _ _)
 have hgh:nY B (bg w b o (ao ι u.cells)) b (.cells kd el size (ub C o u.cells)):=by
  refine⟨?_,dB A o (ao ι u.cells),fz,cz _ _ _ _ _ _ _ h1,by rw [bk]; exact h2,by rw [qO (by omega)]; exact h3,fun k hk' _ ι'=>?_,fun _=>⟨hnB,by rw [bk]; exact hfz⟩⟩
  · exact gV (gV (yK _ hnC) hnf) (yL _ hnC)
  · rw [qO (by omega)] at hk'
    rw [cX _ _ _ _ (by rw [hrl]; omega),HF (by omega),hrl,hl]
    by_cases hlo:o<=k/\k<o+n
    · rw [if_pos hlo,if_pos hlo,bo]
      cases hc':u.cells[k-o]? with
      | none=>rfl
      | some q=>exact congrArg some (hnf q (List.mem_of_getElem? hc') ι ι')
    · rw [if_neg hlo,if_neg hlo]
      exact h4 k hk' (fun h=>absurd h hkd) ι'
 have hsn:=j0 (b:=b) (g:=.cells kd el size (ub C o u.cells)) hsat hk (fun k g' hne _=>gk _ _ _ _ _ hne) hgh hnb
 exact .inl ⟨undef,_,.inr ⟨hrun,rfl⟩,_,_,_,_,ι,hr,hsn⟩
end
end Go.aQ
namespace Go.aQ
open Go.RowKit
theorem vc {s:Nat}:∀{l:List MapEntry} {n i:Nat},l.map (fun e=>e.born)=List.range' s n->l.find? (fun e=>e.born==s+i)=l[i]?
 | [],n,i,h=>by simp
 | e::l,0,i,h=>by cases h
 | e::l,n+1,0,h=>by
   rw [List.map_cons,List.range'_succ,List.cons.injEq] at h
   rw [List.find?_cons,h.1]; simp
 | e::l,n+1,i+1,h=>by
   rw [List.map_cons,List.range'_succ,List.cons.injEq] at h
   have hne:(e.born==s+(i+1))=false:=by rw [h.1,beq_eq_false_iff_ne]; omega
   rw [List.find?_cons,hne]
   have:=vc (s:=s+1) (i:=i) h.2
   rw [show s+1+i=s+(i+1) by omega] at this
   rw [this]; rfl
section
variable {P:Program} {n0 nt:Nat} {T T2:Tm} {hp H:Tr AO} {nx X:Pz} {G:GH} {ops:Array Oper} {i d:Nat} {v u:AV}
theorem Aw {ι:En} {E:Array MapEntry} {es:List (AV × AV)} (h:E.toList.map (fun e=>(e.key,e.val))=es.map fun e=>(aj ι e.1,aj ι e.2)) (hb:E.toList.map (fun e=>e.born)=List.range es.length) {e:MapEntry} (he:e∈E.toList):∃p,es[e.born]?=some p/\e.key=aj ι p.1/\e.val=aj ι p.2/\e.born<es.length:=by
 obtain⟨j,hj,rfl⟩:=List.mem_iff_getElem.1 he
 have h1:=congrArg (fun l=>l[j]?) hb
 have h2:=congrArg (fun l=>l[j]?) h
 simp only [List.getElem?_map,List.getElem?_eq_getElem hj,Option.map_some] at h1 h2
 have hlen:E.toList.length=es.length:=by have:=congrArg List.length h; simpa using this
 have hjl:j<es.length:=by omega
 rw [List.getElem?_range hjl] at h1
 have h1:=Option.some.inj h1
 rw [h1]
 rw [List.getElem?_eq_getElem hjl,Option.map_some] at h2
 have h2:=Option.some.inj h2
 rw [Prod.mk.injEq] at h2
 exact⟨es[j],List.getElem?_eq_getElem hjl,h2.1,h2.2,hjl⟩
theorem j2 {x y:Code} {K:Ex->Tm->Tr AO->Pz->GH->Prop} {b:Bool} (h:eu P n0 nt (bif b then x else y) T hp nx G K):eu P n0 nt (.cond (.const (.bool b)) x y) T hp nx G K:=fun B w0 w ι a hs Q hn=>by
 cases b with
 | true=>exact wpIn_cond_true rfl (h B w0 w ι a hs Q hn)
 | false=>exact wpIn_cond_false rfl (h B w0 w ι a hs Q hn)
theorem eZ.HJ {t kt et:TypeId} {x:Operand} {b:Nat} {es:List (AV × AV)} {R:Tm->Tr AO->Pz->GH->Prop} (hg:(ab ops i).guard=none) (hd:(ab ops i).dst=some d) (hlt:d<nt) (ho:(ab ops i).op=.range t x) (hu:P.underlying t=some (.map kt et))
  (hx:ba nt T x (.dG b)) (hb:G b=some (.map es)) (hr:∀k,n0<=k->G k=none->R (T.put d (.bW k 0)) hp nx (eH G k (.iter (some b) es.length []))):eZ P n0 nt ops i T hp nx G R:=by
 intro B w0 ι a w hs
 refine .inl ⟨by simp [Region.wanted,hg],?_⟩
 rw [hd]
 have hval:=(hs.1.2 ι (al.refl _ _)).1
 obtain⟨_,E,clock,h1,_,_,_,h6⟩:=hs.2.1 b _ hb
 have hrun:(execOp a.eval (ab ops i)).run P w=.ok (.value (.pointer (some ⟨w.heap.size,0,none⟩))) (w.alloc (.mapIter (some b) es.length #[] es.length)):=by
  simp only [execOp,ho,hx ι a hval,aj,Instr.range,Sem.run_bind,av hu,Result.andThen_ok,bH h1,Sem.run_pure,h6]
  rfl
 obtain⟨q1,q2,q3⟩:=rm (g:=.iter (some b) es.length []) (y:=.mapIter (some b) es.length #[] es.length) hs fun hB=>⟨fun h=>absurd (hB _ h) (by omega),bJ w _⟩
 exact .inl ⟨_,_,.inl hrun,_,_,_,_,ι,hr _ q2 q3,dD q1 hlt (kQ _ _) (by simp [aj])⟩
theorem eZ.Ou {t kt et:TypeId} {x:Operand} {R:Tm->Tr AO->Pz->GH->Prop} (hg:(ab ops i).guard=none) (hd:(ab ops i).dst=some d) (hlt:d<nt) (ho:(ab ops i).op=.range t x) (hu:P.underlying t=some (.map kt et))
  (hx:ba nt T x .aV) (hr:∀k,n0<=k->G k=none->R (T.put d (.bW k 0)) hp nx (eH G k (.iter none 0 []))):eZ P n0 nt ops i T hp nx G R:=by
 intro B w0 ι a w hs
 refine .inl ⟨by simp [Region.wanted,hg],?_⟩
 rw [hd]
 have hval:=(hs.1.2 ι (al.refl _ _)).1
 have hrun:(execOp a.eval (ab ops i)).run P w=.ok (.value (.pointer (some ⟨w.heap.size,0,none⟩))) (w.alloc (.mapIter none 0 #[] 0)):=by
  simp only [execOp,ho,hx ι a hval,aj,Instr.range,Sem.run_bind,av hu,Result.andThen_ok,Sem.run_pure]
  rfl
 obtain⟨q1,q2,q3⟩:=rm (g:=.iter none 0 []) (y:=.mapIter none 0 #[] 0) hs fun hB=>⟨fun h=>absurd (hB _ h) (by omega),bJ w _⟩
 exact .inl ⟨_,_,.inl hrun,_,_,_,_,ι,hr _ q2 q3,dD q1 hlt (kQ _ _) (by simp [aj])⟩
theorem eZ.Rv {x:Operand} {b n:Nat} {seen:List Nat} {R:Tm->Tr AO->Pz->GH->Prop} (hg:(ab ops i).guard=none) (hd:(ab ops i).dst=some d) (hlt:d<nt) (ho:(ab ops i).op=.next x false) (hx:ba nt T x (.bW b 0)) (hi:G b=some (.iter none n seen))
  (hr:R (T.put d (.cu [.bool false])) hp nx G):eZ P n0 nt ops i T hp nx G R:=by
 intro B w0 ι a w hs
 refine .inl ⟨by simp [Region.wanted,hg],?_⟩
 rw [hd]
 have hval:=(hs.1.2 ι (al.refl _ _)).1
 obtain⟨_,h1⟩:=hs.2.1 b _ hi
 have hrun:(execOp a.eval (ab ops i)).run P w=.ok (.value (.tuple #[.bool false])) w:=by
  simp only [execOp,ho,hx ι a hval,aj,Instr.next,Sem.run_bind,l8 h1,Result.andThen_ok,Sem.run_pure]
 exact .inl ⟨_,_,.inl hrun,_,_,_,_,ι,hr,dD hs hlt (sJ (dS (iL _) hY)) (by simp [aj,ao])⟩
theorem eZ.next {x:Operand} {b m n:Nat} {seen:List Nat} {es:List (AV × AV)} {R:Tm->Tr AO->Pz->GH->Prop} (hg:(ab ops i).guard=none) (hd:(ab ops i).dst=some d) (hlt:d<nt) (ho:(ab ops i).op=.next x false) (hx:ba nt T x (.bW b 0)) (hi:G b=some (.iter (some m) n seen)) (hm:G m=some (.map es)) (hn:es.length=n)
  (h0:(∀j,j<n->j∈seen)->R (T.put d (.cu [.bool false])) hp nx G) (hr:∀j p,j ∉ seen->j<n->es[j]?=some p->R (T.put d (.cu [.bool true,p.1,p.2])) hp nx (eH G b (.iter (some m) n (seen++[j])))):eZ P n0 nt ops i T hp nx G R:=by
 intro B w0 ι a w hs
 refine .inl ⟨by simp [Region.wanted,hg],?_⟩
 rw [hd]
 have hval:=(hs.1.2 ι (al.refl _ _)).1
 obtain⟨hnB,i1⟩:=hs.2.1 b _ hi
 obtain⟨_,E,clock,m1,m2,m3,m4,m5⟩:=hs.2.1 m _ hm
 subst hn m5
 have hrun:(execOp a.eval (ab ops i)).run P w=((Instr.next (.pointer (some ⟨b,0,none⟩)) false (ab ops i).type).run P w).andThen fun v w=>.ok (.value v) w:=by
  simp only [execOp,ho,hx ι a hval,aj,Sem.run_bind,Sem.run_pure]
 have hnb:∀id ob,hp.get id=some ob->own hp ob->ι.aR id≠b:=fun id ob hid hown e=>by
  have:=hs.2.2.1 id ob hid hown
  rw [e,hi] at this; cases this
 rcases run_next_at (P:=P) w (ab ops i).type b m es.length es.length seen.toArray E es.length i1 m1 (fun x hx=>by
   obtain⟨_,_,_,_,h⟩:=Aw (m3 ι) m4 hx
   exact h) (Nat.le_refl _) with ⟨hleft,hr0⟩ | ⟨e,he,w1,hw1,hr1⟩
 · refine .inl ⟨.tuple #[.bool false],w,.inl (by rw [hrun,hr0]; rfl),_,_,_,_,ι,h0 fun j hj=>?_,dD hs hlt (sJ (dS (iL _) hY)) (by simp [aj,ao])⟩
   have hem:leftOf E seen.toArray=#[]:=Array.eq_empty_of_size_eq_zero hleft
   unfold leftOf at hem
   rw [Array.filter_eq_empty_iff] at hem
   have hlen:E.toList.length=es.length:=by have:=congrArg List.length m4; simpa using this
   have hjE:j<E.toList.length:=by omega
   have hb:=congrArg (fun l=>l[j]?) m4
   simp only [List.getElem?_map,List.getElem?_eq_getElem hjE,Option.map_some,List.getElem?_range hj] at hb
   have hb:=Option.some.inj hb
   have:=hem E.toList[j] (by rw [<-Array.mem_toList_iff]; exact List.getElem_mem _)
   rw [hb] at this
   simpa using this
 · unfold leftOf at he
   rw [Array.mem_toList_iff,Array.mem_filter] at he
   obtain⟨he1,he2⟩:=he
   rw [<-Array.mem_toList_iff] at he1
   obtain⟨p,p1,p2,p3,p4⟩:=Aw (m3 ι) m4 he1
   have hns:e.born ∉ seen:=by simpa using he2
   have hw1h:w1.heap=w.heap:=by rcases hw1 with rfl | rfl<;>rfl
   have hlt2:b<w.heap.size:=(Array.getElem?_eq_some_iff.1 i1).1
   have hoth:∀q,q≠b->(Go.ChangeMaps.setBlock w1 b (.mapIter (some m) es.length (seen.toArray.push e.born) es.length)).heap[q]?=w.heap[q]?:=fun q hq=>by
    show (w1.heap.setIfInBounds _ _)[q]?=_
    rw [hw1h,Array.getElem?_setIfInBounds_ne (fun e=>hq e.symm)]
   have hpm:p∈es:=List.mem_of_getElem? p1
   have hkept:Kept (fun k=>B k∨sM hp ι k) w (Go.ChangeMaps.setBlock w1 b (.mapIter (some m) es.length (seen.toArray.push e.born) es.length)):=by
    refine⟨?_,?_,?_,?_,fun q hq=>hoth q (fun e=>?_)⟩
    · rcases hw1 with rfl | rfl<;>rfl
    · rcases hw1 with rfl | rfl<;>rfl
    · rcases hw1 with rfl | rfl<;>rfl
    · show w.heap.size<=(w1.heap.setIfInBounds _ _).size
      rw [hw1h,Array.size_setIfInBounds]
      exact Nat.le_refl _
    · subst e
      rcases hq with hB | ⟨id,ob,hid,hown,e⟩
      · exact hnB hB
      · exact hnb id ob hid hown e
   have hgh:nY B (Go.ChangeMaps.setBlock w1 b (.mapIter (some m) es.length (seen.toArray.push e.born) es.length)) b (.iter (some m) es.length (seen++[e.born])):=by
    refine⟨hnB,?_⟩
    show (w1.heap.setIfInBounds _ _)[b]?=_
    rw [hw1h]
    simp [hlt2]
   have hsn:=j0 (b:=b) (g:=.iter (some m) es.length (seen++[e.born])) hs hkept (fun q g' hne _=>hoth q hne) hgh hnb
   refine .inl ⟨_,_,.inl (by rw [hrun,hr1]; rfl),_,_,_,_,ι,hr e.born p hns p4 p1,dD hsn hlt (sJ (dS (iL _) (dS (m2 p hpm).1 (dS (m2 p hpm).2 hY)))) ?_⟩
   simp [aj,ao,p2,p3]
theorem aZ.entry {x:Operand} {b m n j:Nat} {seen:List Nat} {es:List (AV × AV)} {p:AV × AV} (hg:(ab ops i).guard=none) (ho:(ab ops i).op=.entry x) (hx:ba nt T x (.bW b 0)) (hi:G b=some (.iter (some m) n (seen++[j]))) (hm:G m=some (.map es)) (hn:es.length=n) (hp0:es[j]?=some p) :
  aZ P ops n0 nt i T hp nx G (.cu [p.1,p.2]):=by
 refine bQ hg fun B w0 ι a w hs=>?_
 have hval:=(hs.1.2 ι (al.refl _ _)).1
 obtain⟨_,i1⟩:=hs.2.1 b _ hi
 obtain⟨_,E,clock,m1,m2,m3,m4,m5⟩:=hs.2.1 m _ hm
 subst hn m5
 have hj:j<es.length:=(List.getElem?_eq_some_iff.1 hp0).1
 have hlen:E.toList.length=es.length:=by have:=congrArg List.length m4; simpa using this
 have hjE:j<E.toList.length:=by omega
 have hf:E.find? (fun x=>x.born==j)=some E.toList[j]:=by
  rw [<-Array.find?_toList]
  have:=vc (s:=0) (l:=E.toList) (n:=es.length) (i:=j) (by rw [m4,List.range_eq_range'])
  rw [Nat.zero_add] at this
  rw [this,List.getElem?_eq_getElem hjE]
 obtain⟨q,q1,q2,q3,_⟩:=Aw (m3 ι) m4 (List.getElem_mem hjE)
 have hb:=congrArg (fun l=>l[j]?) m4
 simp only [List.getElem?_map,List.getElem?_eq_getElem hjE,Option.map_some,List.getElem?_range hj] at hb
 have hb:=Option.some.inj hb
 rw [hb,hp0] at q1
 cases q1
 have hbk:(seen++[j]).toArray.back?=some j:=by simp
 simp only [execOp,ho,hx ι a hval,aj,Instr.entry,Sem.run_bind,l8 i1,bH m1,Result.andThen_ok,hbk,bne_self_eq_false,Bool.false_eq_true,if_false,hf,Sem.run_pure,q2,q3]
 simp [aj,ao]
end
end Go.aQ
