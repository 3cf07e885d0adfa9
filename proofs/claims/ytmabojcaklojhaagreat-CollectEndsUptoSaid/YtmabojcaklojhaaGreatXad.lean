/- Part Xad of the proof of CollectEnds: no condition. -/
import Derived.Test.YtmabojcaklojhaaGreatXac
set_option linter.unusedSimpArgs false
set_option linter.unusedVariables false
namespace Go.aI
open Go.RowKit
section
variable {P:Program}{n0 nt:Nat}{T T2:Tm}{hp H:Tr AO}{nx X:Pz}{G:GH}{ops:Array Oper}{aF:List Nat}{i m d:Nat}{v:AV}{call:bP}
def ur (ops:Array Oper)(aF:List Nat)(nt:Nat):Bool :=
 (List.range ops.size).all fun i =>
  jF (af ops i)&&(((af ops i).after.all fun e=>!Region.binds .any e||Nat.blt e.on i)&&((match (af ops i).dst with|some d=>Nat.blt d nt|none=>true) &&
  ((!aF.contains i||(match (af ops i).dst with|some d=>!((af ops i).looksAt ops).contains d&&((List.range ops.size).all fun j=>i==j||!((af ops j).dst==some d))|none=>false)) &&
   ((List.range ops.size).all fun j=>i==j||(match (af ops j).dst with
     |some d=>!((af ops i).looksAt ops).contains d||(if aF.contains j then bit (Region.before ops) i j else !aF.contains i||(bit (Region.before ops) i j||bit (Region.before ops) j i))
     |none=>true)))))
theorem OJ (h:ur ops aF nt=true):Lt ops aF nt:=by
 unfold ur at h;rw[zb]at h;have key:∀i,i<ops.size->_:=fun i hi=>h i (List.mem_range.2 hi);simp only[za]at key;refine⟨fun i hl hi=>?_,fun i hi=>(key i hi).1,fun i j d hl hi hj hne hd hd'=>?_,fun i j d hl hi hj hne hd hlk=>?_,fun i h d hl hnl hi hh hd hlk=>?_,fun i hi e he hb=>?_,fun i d hi hd=>?_⟩
 ·obtain⟨k1,k2,k3,k4,k5⟩:=key i hi;refine⟨k1,?_⟩;rw[List.contains_iff_mem.2 hl]at k4;simp only[zcz,zcp]at k4;cases hd:(af ops i).dst with
  |none=>rw[hd]at k4;simp at k4
  |some d =>
   rw[hd]at k4;simp only[za,zaj]at k4;exact⟨d,rfl,fun hc=>by rw[List.contains_iff_mem.2 hc]at k4;exact absurd k4.1 (by decide)⟩
 ·obtain⟨k1,k2,k3,k4,k5⟩:=key i hi;rw[List.contains_iff_mem.2 hl]at k4;simp only[zcz,zcp,hd,za,zb]at k4;have:=k4.2 j (List.mem_range.2 hj);rw[hd']at this;simp[hne]at this
 ·obtain⟨k1,k2,k3,k4,k5⟩:=key i hi;rw[zb]at k5;have:=k5 j (List.mem_range.2 hj);rw[hd]at this;simp only[List.contains_iff_mem.2 hlk,List.contains_iff_mem.2 hl,zcz,zcp,if_true]at this;have hx:bit (Region.before ops) i j=true:=by simpa [hne] using this
  exact hx
 ·obtain⟨k1,k2,k3,k4,k5⟩:=key i hi;rw[zb]at k5;have:=k5 h (List.mem_range.2 hh);have hne:i≠h:=fun e=>hnl (e▸hl)
  have hc:aF.contains h=false:=by
   cases hx:aF.contains h with
   |false=>rfl
   |true=>exact absurd (List.contains_iff_mem.1 hx) hnl
  rw[hd]at this;simp only[List.contains_iff_mem.2 hlk,List.contains_iff_mem.2 hl,hc,zcz,zcp,zag,if_false]at this;simp[hne]at this;exact this
 ·obtain⟨k1,k2,k3,k4,k5⟩:=key i hi;have:=Array.all_eq_true'.1 k2 e he;rw[hb]at this;exact av (by simpa using this)
 ·obtain⟨k1,k2,k3,k4,k5⟩:=key i hi;rw[hd]at k3;exact av k3
theorem wB {B:Nat->Prop}{w0 w:World}{ι:En}{a:Act}(h:c8 n0 B w0 nt T hp nx G ι a w):c8 n0 B w0 nt T hp nx G ι a w.drew :=
 ⟨⟨h.1.1,fun ι' hι=>⟨(h.1.2 ι' hι).1,iy (h.1.2 ι' hι).2⟩⟩,fun b g hb=>(h.2.1 b g hb).bE rfl (fun h=>h),h.2.2.1,h.2.2.2⟩
theorem Co {K:Ex->Tm->Tr AO->Pz->GH->Prop}(hm:P.follows .mixedOrders=true)(f:Nat)(hl:ur ops aF nt=true){id:Nat}(h:Ka P n0 nt ops aF f [] [] T hp nx G (K .eJ)):dx P n0 nt (.region id ops true) T hp nx G K:=by
 intro r hr B w0 w ι a hs Q hn;refine KY hm (OJ hl) (hs.1.2 ι (al.refl _ _)).1.size (f:=f) ?_;have:=h B w0 ι a w.drew (wB hs) (Q .normal) fun T' hp' nx' G' ι2 a' w' k1 k4=>hn .eJ T' hp' nx' G' ι2 a' w' k1 k4;simpa using this
structure ju (n0:Nat) (G G':GH):Prop where
 new:∀b,(G' b).isSome=true->(G b).isSome=true∨n0<=b
 old:∀b,(G b).isSome=true->(G' b).isSome=true
theorem ju.refl (n0:Nat)(G:GH):ju n0 G G:=⟨fun b h=>.inl h,fun b h=>h⟩
theorem ju.trans {G1 G2 G3:GH}(h:ju n0 G1 G2)(h':ju n0 G2 G3):ju n0 G1 G3 :=
 ⟨fun b hb=>(h'.new b hb).elim (h.new b) .inr,fun b hb=>h'.old b (h.old b hb)⟩
def Spec (P:Program)(f:Nat)(args:List AV)(G:GH)(R:AV->GH->Prop):Prop :=
 ∀B w0 w ι (cargs:Array Value),Core B w0 ι .e w->AD B G w->cargs=(ao ι args).toArray ->
  dh P (callFunc f cargs) w fun cv w'=>∃v G',R v G'/\nf v/\cv=ak ι v/\Core B w0 ι .e w'/\AD B G' w'/\(∀b,(G' b).isSome=true->(G b).isSome=true∨w.heap.size<=b)/\∀b,(G b).isSome=true->(G' b).isSome=true
theorem Spec.mono {f:Nat}{args:List AV}{R R':AV->GH->Prop}(h:Spec P f args G R)(hr:∀v G',R v G'->R' v G'):Spec P f args G R':=fun B w0 w ι cargs h1 h2 h3 =>
 (h B w0 w ι cargs h1 h2 h3).mono fun cv w' ⟨v,G',g1,g2⟩=>⟨v,G',hr _ _ g1,g2⟩
def vt (hp:Tr AO)(ι:En)(b:Nat):Prop:=∃id o,hp.get id=some o/\own hp o/\ι.aS id=b
theorem oX {B:Nat->Prop}{w0 w w':World}{ι ι':En}(hw:Wf hp nx)(hι:al nx ι ι')(hc:Core B w0 ι' hp w)(hk:Kept (fun b=>B b∨vt hp ι b) w w'):Core B w0 ι' hp w':=by
 refine⟨hc.below.trans (hk.mono fun k hk=>.inl hk),fun k hk'=>zaw (hc.room k hk') hk.size,fun id o hid=>?_,hc.base,hc.sep,hc.e9⟩;refine (hc.obj id o hid).bE (fun h=>h) fun ho=>hk.block _ (.inr ⟨id,o,hid,ho,?_⟩);exact ((hι id (hw.lt id o hid)).1).symm
theorem qA.less {B B':Nat->Prop}{w:World}{b:Nat}{g:Gh}(h:qA B w b g)(hB:∀b,B' b->B b):qA B' w b g:=h.bE rfl (hB b)
theorem AH {S:Sem Next}{R:AV->GH->Prop}{B:Nat->Prop}{w0 w:World}{ι:En}{a:Act}(h:∀B w0,Core B w0 ι .e w->AD B G w ->
      dh P S w fun cv w'=>∃v G',R v G'/\nf v/\cv=ak ι v/\Core B w0 ι .e w'/\AD B G' w'/\(∀b,(G' b).isSome=true->(G b).isSome=true∨w.heap.size<=b)/\∀b,(G b).isSome=true->(G' b).isSome=true)
  (hs:c8 n0 B w0 nt T hp nx G ι a w):dh P S w fun cv w'=>∃v G',R v G'/\nf v/\cv=ak ι v/\c8 n0 B w0 nt T hp nx G' ι a w'/\ju n0 G G':=by
 obtain⟨hs1,hg,ho,hn,hb⟩:=hs;have c0:=(hs1.2 ι (al.refl _ _)).2;have no:∀{id:Pz} {o:AO} {p:Prop},(Tr.e:Tr AO).get id=some o->p:=fun h=>by rw[Tr.fD]at h;cases h
 have ce:Core (fun b=>B b∨vt hp ι b) w ι .e w:=by
  refine⟨Kept.refl _ _,fun k hk=>?_,fun id o h=>no h,fun id o h=>no h,fun id id' o o' _ h=>no h,fun id id' f ep es n el c f' ep' tp' es' n' el' c' _ h=>no h⟩;rcases hk with hk|⟨id,o,hid,hown,rfl⟩
  ·exact c0.room k hk
  ·exact xT hown (c0.obj id o hid)
 have hg':AD (fun b=>B b∨vt hp ι b) G w:=fun b g hb'=>by
  have hno:¬vt hp ι b:=by
   rintro⟨id,o,hid,hown,rfl⟩
   rw[ho id o hid hown]at hb';cases hb'
  exact (hg b g hb').bE rfl fun h=>h.resolve_right hno
 refine (h _ w ce hg').mono fun cv w' ⟨v,G',g1,g2,g3,g4,g5,g6,g7⟩=>⟨v,G',g1,g2,g3,?_,⟨fun b hb=>(g6 b hb).imp id fun h=>zam hn h,g7⟩⟩;refine⟨⟨hs1.1,fun ι' hι=>⟨(hs1.2 ι' hι).1,oX hs1.1 hι (hs1.2 ι' hι).2 g4.below⟩⟩,fun b g hb'=>(g5 b g hb').less fun b hb=>.inl hb,fun id o hid hown=>?_,zam hn g4.below.size,fun b hlt hnone=>?_⟩
 ·cases hgb:G' (ι.aS id)with
  |none=>rfl
  |some g =>
   rcases g6 _ (by rw[hgb];rfl)with h|h
   ·rw[ho id o hid hown]at h;cases h
   ·exact absurd (xT hown (c0.obj id o hid)) (by omega)
 ·refine hb b hlt ?_;cases hgb:G b with
  |none=>rfl
  |some g =>
   have:=g7 b (by rw[hgb];rfl);rw[hnone]at this;cases this
theorem Spec.M7 {f:Nat}{args:List AV}{R:AV->GH->Prop}(h:Spec P f args G R){B:Nat->Prop}{w0 w:World}{ι:En}{a:Act}(hs:c8 n0 B w0 nt T hp nx G ι a w){cargs:Array Value}(hc:cargs=(ao ι args).toArray) :
  dh P (callFunc f cargs) w fun cv w'=>∃v G',R v G'/\nf v/\cv=ak ι v/\c8 n0 B w0 nt T hp nx G' ι a w'/\ju n0 G G':=AH (fun B w0 h1 h2=>h B w0 w ι cargs h1 h2 hc) hs
end
end Go.aI
namespace Go.aI
open Go.RowKit
section
variable {P:Program}{n0 nt:Nat}{T T2:Tm}{hp H:Tr AO}{nx X:Pz}{G:GH}{ops:Array Oper}{aF:List Nat}{i m d:Nat}{v:AV}
def ow (o:Oper):Option (Operand×List Operand):=match o.op with
 |.call c=>match c.callee with|.value f=>some (f,c.args.toList)|_=>none
 |_=>none
noncomputable def wC (v x:AV):Rs:=by
 classical exact if x=v then .ok else .bad 0
theorem Cp {v:AV}:wC v v=.ok:=by simp[wC]
theorem Ia {v x:AV}(h:wC v x=.ok):x=v:=by
 unfold wC at h;split at h
 ·assumption
 ·cases h
def T8 (P:Program)(n0:Nat)(fn:Func)(G:GH)(R:AV->GH->Prop)(e:Ex)(tm:Tm)(hp:Tr AO)(nx:Pz)(G':GH):Prop :=
 (∀j,e≠.ext j)/\tm.ml=[]/\ju n0 G G'/\∃v,nf v/\R v G'/\∀k,oI P fn.results.toList tm hp (fun vs=>Hi vs k)=k v
theorem F3 {f:Nat}{fn:Func}{c:Code}{args:List AV}{R:AV->GH->Prop}(hf:P.funcs[f]?=some fn)(hb:fn.body=some c)(hn:(fn.name == "runtime.NumGoroutine")=false)(hl:Nat.ble args.length fn.ntmps=true)
  (hargs:lC args) (hT:∀Kr,iP args 0 .e Kr=Kr T) (h:∀n0,dx P n0 fn.ntmps c T .e (z 0) G (T8 P n0 fn G R)):Spec P f args G R:=by
 intro B w0 w ι cargs hc hg hca;have hl:=aK hl
 have hT1:∃t',t'=T/\t'.ml=Tm.e.ml/\∀j,t'.at j=if 0<=j/\j<0+args.length then (args[j-0]?).getD aE else Tm.e.at j:=by
  classical
  obtain⟨t',h1,h2,h3⟩:=td args 0 Tm.e (fun t=>if t=T then .ok else .bad 0) (by rw[hT];simp);refine⟨t',?_,h2,h3⟩;split at h1
  ·assumption
  ·cases h1
 obtain⟨t',e0,hml,ht⟩:=hT1;subst e0;refine .inr (.inl ⟨f,cargs,w,by simp only[callFunc,Sem.run_bind,run_program,Result.andThen_ok,hf,hn,hb,Option.isNone_some,zag,if_false,Sem.run_pure],?_⟩);refine callsIn_wide.1 (callsIn_of_wp_marks (F:=fw none) (n:=0) hf hb trivial ?_);have no:∀{id:Pz} {o:AO} {p:Prop},(Tr.e:Tr AO).get id=some o->p:=fun h=>by rw[Tr.fD]at h;cases h
 have hsat:c8 w.heap.size (fun b=>B b∨(b<w.heap.size/\G b=none)) w fn.ntmps t' .e (z 0) G ι { tmps:=cargs++Array.replicate (fn.ntmps-cargs.size) undef,defers:=[] } w:=by
  refine⟨⟨qx _,fun ι' hι=>⟨?_,?_⟩⟩,fun b g hbg=>(hg b g hbg).bE rfl fun hB=>?_,fun id o h=>no h,zad _,fun b hlt hnone=>.inr ⟨hlt,hnone⟩⟩
  ·rw[hca,lZ hargs ι ι'];exact tZ hml hl ht
  ·refine⟨Kept.refl _ _,fun k hk=>?_,fun id o h=>no h,fun id o h=>no h,fun id id' o o' _ h=>no h,fun id id' f ep es n el c f' ep' tp' es' n' el' c' _ h=>no h⟩;rcases hk with hk|hk
   ·exact hc.room k hk
   ·exact hk.1
  ·rcases hB with hB|hB
   ·exact hB
   ·rw[hbg]at hB;cases hB.2
 refine h w.heap.size none (.inl rfl) _ w w ι _ hsat _ (fun e tm' hp' nx' G' ι2 a' w' hk hs=>?_);obtain⟨k1,k2,k3,v,k4,k5,k6⟩:=hk
 have fin:LeavesInM (fw none) 0 P fn a'.tmps (fun e w''=>∃cv,e=.returned cv/\∃v G',R v G'/\nf v/\cv=ak ι v/\Core B w0 ι .e w''/\AD B G' w''/\(∀b,(G' b).isSome=true->(G b).isSome=true∨w.heap.size<=b)/\∀b,(G b).isSome=true->(G' b).isSome=true) a'.defers .returning w':=by
  obtain⟨t0,c0⟩:=hs.1.2 ι2 (al.refl _ _);rw[t0.defers,k2];show ∃cv,(results fn a'.tmps).run P w'=.ok cv w'/\_;obtain⟨v',hkv,hv⟩:=lT (P:=P) (fn:=fn) (k:=fun x=>wC v x) ((k6 (wC v)).trans Cp);have hv':=Ia hkv;subst hv';refine⟨ak ι2 v',hv _ _ ι2 _ a' w' t0 c0,_,rfl,v',G',k5,k4,k4 _ _,?_,fun b g hb'=>(hs.2.1 b g hb').less fun b hb=>.inl hb,fun b hb=>k3.new b hb,k3.old⟩;have c1:=qw (jz (a:=.e) (fun id o h=>no h) c0) ι;exact⟨hc.below.trans (c1.below.mono fun k hk=>.inl hk),fun k hk=>c1.room k (.inl hk),fun id o h=>no h,fun id o h=>no h,fun id id' o o' _ h=>no h,fun id id' f ep es n el c f' ep' tp' es' n' el' c' _ h=>no h⟩
 cases e with
 |eJ=>exact fin
 |ext id=>exact absurd rfl (k1 id)
 |ret=>exact fin
end
end Go.aI
namespace Go.aI
open Go.RowKit
section
variable {P:Program}{n0 nt:Nat}{T T2:Tm}{hp H:Tr AO}{nx X:Pz}{G:GH}{ops:Array Oper}{aF:List Nat}{i m d:Nat}{v:AV}
theorem cY (hg:(af ops i).guard=none)(h:∀B w0 ι a w,c8 n0 B w0 nt T hp nx G ι a w->(execOp a.eval (af ops i)).run P w=.ok (.value (ak ι v)) w):bq P ops n0 nt i T hp nx G v :=
 fun B w0 ι a w hs=>.inl ⟨by simp[Region.wanted,hg],h B w0 ι a w hs⟩
theorem jJ {B:Nat->Prop}{w0 w:World}{ι:En}{a:Act}(hs:c8 n0 B w0 nt T hp nx G ι a w)(x:Nat){u:AV}(hx:T.at x=u):a.eval (.tmp x)=ak ι u:=by
 show a.tmps.getD x undef=_;rw[(hs.1.2 ι (al.refl _ _)).1.val x,hx]
theorem bq.field {t ft:TypeId}{x f off b o:Nat}(hg:(af ops i).guard=none)(ho:(af ops i).op=.fieldAddr t (.tmp x) f)(hx:T.at x=.cu b o)(hf:fq P t f=some (off,ft))(hz:Nat.beq (ae P ft) 0=false) :
  bq P ops n0 nt i T hp nx G (.cu b (o+off)):=by
 refine cY hg fun B w0 ι a w hs=>?_;obtain⟨fs,fd,h1,h2,h3,h4⟩:=j0 hf;have hz':=qW hz;obtain⟨j,hj⟩:=tQ hz';simp only[execOp,ho];rw[jJ hs x hx];simp only[ak,Instr.fieldAt,Sem.run_bind,ay h1,Result.andThen_ok,h2,Instr.sureAddr,Sem.run_pure,fieldPlace];rw[h4,dE hj];simp only[Result.andThen_ok];rw[if_neg hz'];simp only[Sem.run_pure,Result.andThen_ok,gx,h3,zbq]
theorem bq.nil {x b o:Nat}(hg:(af ops i).guard=none)(ho:(af ops i).op=.nilCheck (.tmp x))(hx:T.at x=.cu b o):bq P ops n0 nt i T hp nx G (.cu b o):=by
 refine cY hg fun B w0 ι a w hs=>?_;simp only[execOp,ho];rw[jJ hs x hx];simp[ak]
theorem iC {B:Nat->Prop}{w0 w:World}{ι:En}{a:Act}{b:Nat}{wr:BK}{el:TypeId}{size:Nat}{C:List AV}(hs:c8 n0 B w0 nt T hp nx G ι a w)(hb:G b=some (.cells wr el size C))(o:Nat)(ho:o<C.length)(hu:wr=.raw->C[o]?≠some aE:=by exact fun h=>by cases h) :
  w.cell? ⟨b,o,none⟩=(C[o]?).map (ak ι):=by
 obtain⟨_,A,fz,h1,h2,h3,h4,h5⟩:=hs.2.1 b _ hb;rw[nO h1,h4 o ho hu]
theorem bq.DQ {t:TypeId}{x b o:Nat}{wr:BK}{el:TypeId}{size n:Nat}{C l:List AV}(hg:(af ops i).guard=none)(ho:(af ops i).op=.load t (.tmp x))(hx:T.at x=.cu b o)(ht:dZ P t=true)(hn:ae P t=n)
  (hb:G b=some (.cells wr el size C)) (hle:o+n<=C.length) (hl:(C.drop o).take n=l) (hu:wr=.raw->aE∉l:=by exact fun h=>by cases h):bq P ops n0 nt i T hp nx G (.agg l):=by
 refine cY hg fun B w0 ι a w hs=>?_;obtain⟨d,hd⟩:=p9 ht;have hlen:l.length=n:=by rw[<-hl,zaf,zas];omega
 simp only[execOp,ho];rw[jJ hs x hx];simp only[ak,Instr.loadAt,Instr.sureAddr,loadVar,Sem.run_bind,Sem.run_pure,Result.andThen_ok,iK hd,ht,if_true,gY hd,hn];rw[run_loadCells (l:=ao ι l) (by rw[aq,hlen]) fun j hj=>?_]
 ·simp
 ·rw[aq]at hj;rw[iC hs hb _ (by omega) (fun hw he=>hu hw (by rw[<-hl];exact zba (i:=j) (by rw[zbd (by omega),zbb];exact he))),bu,<-hl,zbd (by omega),zbb]
theorem bq.AJ {t:TypeId}{x b o:Nat}{wr:BK}{el:TypeId}{size:Nat}{C:List AV}(hg:(af ops i).guard=none)(ho:(af ops i).op=.load t (.tmp x))(hx:T.at x=.cu b o)(hk:cD P t=true)(ht:dZ P t=false)
  (hb:G b=some (.cells wr el size C)) (hl:C[o]?=some v) (hu:wr=.raw->v≠aE:=by exact fun h=>by cases h):bq P ops n0 nt i T hp nx G v:=by
 refine cY hg fun B w0 ι a w hs=>?_;obtain⟨d,hd⟩:=kV hk;have hlt:o<C.length:=(List.getElem?_eq_some_iff.1 hl).1;simp only[execOp,ho];rw[jJ hs x hx];simp only[ak,Instr.loadAt,Instr.sureAddr,loadVar,Sem.run_bind,Sem.run_pure,Result.andThen_ok,iK hd,ht,zag,if_false];rw[gy (v:=ak ι v) (by rw[iC hs hb _ hlt (fun hw he=>hu hw (by rw[hl]at he;exact Option.some.inj he)),hl];rfl)];simp
end
end Go.aI
namespace Go.aI
open Go.RowKit
def dj (G:GH)(b:Nat)(g:Gh):GH:=fun k=>if k=b then some g else G k
theorem au (G:GH)(b:Nat)(g:Gh):dj G b g b=some g:=by simp[dj]
theorem aV {G:GH}{b k:Nat}{g:Gh}(h:k≠b):dj G b g k=G k:=by simp[dj,h]
section
variable {P:Program}{n0 nt:Nat}{T T2:Tm}{hp H:Tr AO}{nx X:Pz}{G:GH}{ops:Array Oper}{aF:List Nat}{i m d:Nat}{v:AV}
theorem lj {B:Nat->Prop}{w0 w w':World}{ι:En}{a:Act}{b:Nat}{g:Gh}(hs:c8 n0 B w0 nt T hp nx G ι a w)(hk:Kept (fun k=>B k∨vt hp ι k) w w')(hoth:∀k g',k≠b->G k=some g'->w'.heap[k]?=w.heap[k]?)
  (hg:qA B w' b g) (hb:∀id o,hp.get id=some o->own hp o->ι.aS id≠b):c8 n0 B w0 nt T hp nx (dj G b g) ι a w':=by
 obtain⟨hs1,hg1,ho,hn,hbb⟩:=hs;refine⟨⟨hs1.1,fun ι' hι=>⟨(hs1.2 ι' hι).1,oX hs1.1 hι (hs1.2 ι' hι).2 hk⟩⟩,fun k g' hk'=>?_,fun id o hid hown=>?_,zam hn hk.size,fun k hlt hnone=>?_⟩
 ·by_cases e:k=b
  ·subst e;rw[au]at hk';cases hk';exact hg
  ·rw[aV e]at hk';exact (hg1 k g' hk').bE (hoth k g' e hk') (fun h=>h)
 ·rw[aV (hb id o hid hown)];exact ho id o hid hown
 ·by_cases e:k=b
  ·subst e;rw[au]at hnone;cases hnone
  ·rw[aV e]at hnone;exact hbb k hlt hnone
theorem dG {b:Nat}{g:Gh}(h:(G b).isSome=true∨n0<=b):ju n0 G (dj G b g):=by
 refine⟨fun k hk=>?_,fun k hk=>?_⟩
 ·by_cases e:k=b
  ·subst e;exact h
  ·rw[aV e]at hk;exact .inl hk
 ·by_cases e:k=b
  ·subst e;rw[au];rfl
  ·rw[aV e];exact hk
def AK (P:Program)(n0 nt:Nat)(T:Tm)(hp:Tr AO)(nx:Pz)(G:GH)(sz m:Nat)(v:AV)(E:List AV):Prop :=
 E.length=m*sz/\lC E/\flat E=true/\∀B w0 ι a w,c8 n0 B w0 nt T hp nx G ι a w->(Builtin.lenOf (ak ι v)).run P w=.ok m w/\(Builtin.firstCells sz m (ak ι v)).run P w=.ok (ao ι E).toArray w
theorem gz {B:Nat->Prop}{w0 w:World}{ι:En}{a:Act}{cv:Value}(hs:c8 n0 B w0 nt T hp nx G ι a w)(hd:d<nt)(hv:nf v)(hc:cv=ak ι v):c8 n0 B w0 nt (T.put d v) hp nx G ι (a.put (some d) cv) w :=
 ⟨⟨hs.1.1,fun ι' hι=>⟨kY (hs.1.2 ι' hι).1 hd (by rw[hc];exact hv _ _),(hs.1.2 ι' hι).2⟩⟩,hs.2⟩
theorem qB {B:Nat->Prop}{w0 w:World}{ι:En}{a:Act}(hs:c8 n0 B w0 nt T hp nx G ι a w):∀id o,hp.get id=some o->own hp o->ι.aS id<w.heap.size:=fun id o hid ho=>xT ho ((hs.1.2 ι (al.refl _ _)).2.obj id o hid)
theorem Ib {kd:BK}{B:Nat->Prop}{w0 w:World}{ι:En}{a:Act}{A:Array Value}{el:TypeId}{C:List AV}(hs:c8 n0 B w0 nt T hp nx G ι a w)(hC:lC C)(hle:C.length<=A.size)(hA:∀i,i<C.length->A[i]?=(C[i]?).map (ak ι)) :
  c8 n0 B w0 nt T hp nx (dj G w.heap.size (.cells kd el A.size C)) ι a (w.drew.alloc (.cells A el (0,0)))/\n0<=w.heap.size/\G w.heap.size=none:=by
 have c0:=(hs.1.2 ι (al.refl _ _)).2
 have hroom:∀k,(B k∨vt hp ι k)->k<w.heap.size:=fun k hk=>by
  rcases hk with hk|⟨id,o,hid,hown,rfl⟩
  ·exact c0.room k hk
  ·exact qB hs id o hid hown
 refine⟨lj hs ?_ (fun k g' hne hk=>?_) ?_ (fun id o hid hown e=>?_),hs.2.2.2.1,?_⟩
 ·exact ((Kept.refl _ _).drew).alloc (fun k hk=>hroom k hk) _
 ·exact Below.heap_alloc _ _ _ (hs.2.1 k g' hk).lt
 ·refine⟨hC,A,(0,0),bO w.drew _,rfl,hle,fun i hi _ ι'=>?_,fun _=>⟨fun hb=>absurd (hroom _ (.inl hb)) (by omega),.inl rfl⟩⟩;rw[hA i hi];cases hc:C[i]? with
  |none=>rfl
  |some u=>exact congrArg some (hC u (zba hc) ι ι')
 ·have:=qB hs id o hid hown;omega
 ·cases hg:G w.heap.size with
  |none=>rfl
  |some g=>exact absurd (hs.2.1 _ _ hg).lt (by omega)
end
end Go.aI
namespace Go.aI
open Go.RowKit
section
variable {P:Program}{n0 nt:Nat}{T T2:Tm}{hp H:Tr AO}{nx X:Pz}{G:GH}{ops:Array Oper}{aF:List Nat}{i m d:Nat}{v:AV}
theorem qC {sz:Nat}(hv:v=.ab):AK P n0 nt T hp nx G sz 0 v []:=by
 subst hv;exact⟨by simp,jt,rfl,fun B w0 ι a w hs=>⟨by simp[ak,Builtin.lenOf],by simp[ak,ao,Builtin.firstCells]⟩⟩
end
theorem AL {l:List AV}(h:∀v∈l,sH v=true):flat l=true:=by
 induction l with
 |nil=>rfl
 |cons v l ih =>
  show Bool.rec (motive:=fun _=>Bool) false (flat l) (sH v)=true;rw[h v (by simp),ih fun x hx=>h x (by simp[hx])]
end Go.aI


namespace Go.aI
open Go.RowKit
def bH (nt:Nat)(T:Tm)(x:Operand)(v:AV):Prop:=∀ι a,bW ι nt T a->a.eval x=ak ι v
theorem OK {nt:Nat}{T:Tm}{x:Nat}{v:AV}(h:T.at x=v):bH nt T (.tmp x) v:=fun ι a ha=>by
 show a.tmps.getD x undef=_;rw[ha.val x,h]
def vu (C:List AV)(o:Nat)(l:List AV):List AV:=C.take o++l++C.drop (o+l.length)
theorem ss {C l:List AV}{o:Nat}(h:o+l.length<=C.length):(vu C o l).length=C.length:=by
 simp only[vu,zak,zaf,zas];omega
theorem Ic {C l:List AV}{o:Nat}(h:o+l.length<=C.length)(k:Nat):(vu C o l)[k]?=if o<=k/\k<o+l.length then l[k-o]? else C[k]?:=by
 unfold vu;by_cases h1:k<o
 ·rw[if_neg (by omega),zbc,zau (by rw[zaf];omega),zbd h1]
 ·by_cases h2:k<o+l.length
  ·rw[if_pos ⟨by omega,h2⟩,zbc,zay (by rw[zaf];omega),zau (by rw[zaf];omega),zaf,zcl (by omega)]
  ·rw[if_neg (by omega),zay (by rw[zak,zaf];omega),zbb];congr 1;rw[zak,zaf];omega
end Go.aI
namespace Go.aI
open Go.RowKit
section
variable {P:Program}{n0 nt:Nat}{T T2:Tm}{hp H:Tr AO}{nx X:Pz}{G:GH}{ops:Array Oper}{aF:List Nat}{i m d:Nat}{v u:AV}
def F4 (nt:Nat)(T:Tm):List Operand->List AV->Prop
 | [],[]=>True
 |x::xs,v::vs=>bH nt T x v/\F4 nt T xs vs
 |_,_=>False
theorem F4.map {ι:En}{a:Act}(ha:bW ι nt T a):∀{xs:List Operand}{vs:List AV},F4 nt T xs vs->xs.map a.eval=ao ι vs
 | [],[],_=>rfl
 |x::xs,v::vs,h=>by
  simp only[zal,ao];rw[h.1 ι a ha,F4.map ha h.2]
 | [],_::_,h=>h.elim
 |_::_,[],h=>h.elim
end
end Go.aI





namespace Go.aI
open Go.RowKit
def nD (C:List AV)(p:Nat)(l:List AV):List AV:=C.take p++l++C.drop (p+l.length)
theorem rn {C l:List AV}{p:Nat}(h:p<=C.length)(k:Nat):(nD C p l)[k]?=if p<=k/\k<p+l.length then l[k-p]? else C[k]?:=by
 unfold nD;by_cases h1:k<p
 ·rw[if_neg (by omega),zbc,zau (by rw[zaf];omega),zbd h1]
 ·by_cases h2:k<p+l.length
  ·rw[if_pos ⟨by omega,h2⟩,zbc,zay (by rw[zaf];omega),zau (by rw[zaf];omega),zaf,zcl (by omega)]
  ·rw[if_neg (by omega),zay (by rw[zak,zaf];omega),zbb];congr 1;rw[zak,zaf];omega
theorem mc {C l:List AV}{p:Nat}(h:p<=C.length):(nD C p l).length=max C.length (p+l.length):=by
 simp only[nD,zak,zaf,zas];omega
def Ext (G:GH)(v:AV)(el:TypeId)(sz len:Nat)(E:List AV):Prop :=
 (v=.ab/\len=0/\E=[])∨∃b o cap size C,v=.cN b o len cap/\G b=some (.cells .data el size C)/\o+len*sz<=C.length/\(C.drop o).take (len*sz)=E/\o+cap*sz<=size/\len<=cap
def K1 (n0:Nat)(G G':GH)(v v':AV)(e:TypeId)(sz len m:Nat)(E L:List AV):Prop :=
 (v'=.ab/\G'=G/\len=0/\m=0/\v=.ab)∨
 (∃b o cap size C,v=.cN b o len cap/\G b=some (.cells .data e size C)/\v'=.cN b o (len+m) cap/\len+m<=cap/\o+cap*sz<=size/\o+len*sz<=C.length/\G'=dj G b (.cells .data e size (nD C (o+len*sz) L)))∨
 (∃b c' size,n0<=b/\G b=none/\v'=.cN b 0 (len+m) c'/\len+m<=c'/\c'*sz<=size/\G'=dj G b (.cells .data e size (E++L)))
end Go.aI
namespace Go.aI
open Go.RowKit
inductive KK where|str|pair|int|jj|mE|Ie
def cK:KK->AV->Prop
 |.str,v=>∃l n,v=.str l n
 |.mE,v=>∃l n,v=.str l n/\l<=1099511627776
 |.pair,v=>∃l n l' n',v=.agg [.str l n,.str l' n']
 |.int,v=>∃n,v=.int .i64 n
 |.jj,v=>∃n n',v=.agg [.int .i64 n,.int .i64 n']
 |.Ie,v=>∃l n z b,v=.agg [.str l n,.int .i64 z,.bool b]
def aW:AV->AV->Bool
 |.str l n,.str l' n'=>aR l n l' n'
 |.agg [.str a b,.str c d],.agg [.str a' b',.str c' d']=>aR a b a' b'&&aR c d c' d'
 |.int _ n,.int _ n'=>n==n'
 |.agg [.int _ a,.int _ b],.agg [.int _ a',.int _ b']=>a==a'&&b==b'
 |.agg [.str a b,.int _ n,.bool p],.agg [.str a' b',.int _ n',.bool p']=>aR a b a' b'&&(n==n'&&p==p')
 |_,_=>false
theorem cK.nf {pk:KK}{v:AV}(h:cK pk v):nf v:=by
 cases pk with
 |str=>obtain⟨l,n,rfl⟩:=h;exact iZ _ _
 |mE=>obtain⟨l,n,rfl,_⟩:=h;exact iZ _ _
 |pair=>obtain⟨a,b,c,d,rfl⟩:=h;exact xV (hY (iZ _ _) (hY (iZ _ _) jt))
 |int=>obtain⟨n,rfl⟩:=h;exact kL _ _
 |jj=>obtain⟨a,b,rfl⟩:=h;exact xV (hY (kL _ _) (hY (kL _ _) jt))
 |Ie=>obtain⟨l,n,z,b,rfl⟩:=h;exact xV (hY (iZ _ _) (hY (kL _ _) (hY (lX _) jt)))
structure oY (P:Program) (kt:TypeId) (pk:KK):Prop where
 Qx:∃d,P.underlying kt=some d
 eq:∀a b,cK pk a->cK pk b->xx P 9 kt a b (aW a b)
 DR:∀v,cK pk v->∀e ι w,(Instr.checkKey e 10000 kt (ak ι v)).run P w=.ok () w
theorem Ig {pk:KK}{a b:AV}(ha:cK pk a)(hb:cK pk b)(h:aW a b=true):oi a b=true:=by
 cases pk with
 |str=>obtain⟨l,n,rfl⟩:=ha;obtain⟨l',n',rfl⟩:=hb;exact h
 |mE=>obtain⟨l,n,rfl,_⟩:=ha;obtain⟨l',n',rfl,_⟩:=hb;exact h
 |pair =>
  obtain⟨a,b,c,d,rfl⟩:=ha;obtain⟨a',b',c',d',rfl⟩:=hb;have h:(aR a b a' b'&&aR c d c' d')=true:=h;show (aR a b a' b'&&(aR c d c' d'&&true))=true;rw[Bool.and_true];exact h
 |int =>
  obtain⟨n,rfl⟩:=ha;obtain⟨n',rfl⟩:=hb;have h:(n==n')=true:=h;rw[beq_iff_eq]at h;subst h;simp[oi,tE,eM]
 |jj =>
  obtain⟨a,b,rfl⟩:=ha;obtain⟨a',b',rfl⟩:=hb;have h:(a==a'&&b==b')=true:=h;rw[za,beq_iff_eq,beq_iff_eq]at h;obtain⟨rfl,rfl⟩:=h;simp[oi,vH,tE,eM]
 |Ie =>
  obtain⟨a,b,n,p,rfl⟩:=ha;obtain⟨a',b',n',p',rfl⟩:=hb;have h:(aR a b a' b'&&(n==n'&&p==p'))=true:=h;rw[za,za,beq_iff_eq,beq_iff_eq]at h;obtain⟨h1,rfl,rfl⟩:=h;simp[oi,vH,tE,eM,h1]
theorem jK (l n l' n':Nat):aR l n l' n'=aR l' n' l n:=by
 rw[dX,dX];exact Bool.eq_iff_iff.2 ⟨fun h=>by rw[beq_iff_eq]at h ⊢;exact h.symm,fun h=>by rw[beq_iff_eq]at h ⊢;exact h.symm⟩
theorem iD (l n:Nat):aR l n l n=true:=by rw[dX];simp
theorem iR {l n l' n' l2 n2:Nat}(h:aR l n l' n'=true):aR l n l2 n2=aR l' n' l2 n2:=by
 rw[dX,beq_iff_eq]at h;rw[dX,dX,h]
theorem Cq {pk:KK}{a:AV}(ha:cK pk a):aW a a=true:=by
 cases pk with
 |str=>obtain⟨l,n,rfl⟩:=ha;exact iD _ _
 |mE=>obtain⟨l,n,rfl,_⟩:=ha;exact iD _ _
 |pair=>obtain⟨a,b,c,d,rfl⟩:=ha;show (aR a b a b&&aR c d c d)=true;rw[iD,iD];rfl
 |int=>obtain⟨n,rfl⟩:=ha;show (n==n)=true;simp
 |jj=>obtain⟨a,b,rfl⟩:=ha;show (a==a&&b==b)=true;simp
 |Ie=>obtain⟨a,b,n,p,rfl⟩:=ha;show (aR a b a b&&(n==n&&p==p))=true;rw[iD];simp
theorem oZ {pk:KK}{a b:AV}(ha:cK pk a)(hb:cK pk b):aW a b=aW b a:=by
 cases pk with
 |str=>obtain⟨l,n,rfl⟩:=ha;obtain⟨l',n',rfl⟩:=hb;exact jK _ _ _ _
 |mE=>obtain⟨l,n,rfl,_⟩:=ha;obtain⟨l',n',rfl,_⟩:=hb;exact jK _ _ _ _
 |pair =>
  obtain⟨a,b,c,d,rfl⟩:=ha;obtain⟨a',b',c',d',rfl⟩:=hb;show (aR a b a' b'&&aR c d c' d')=(aR a' b' a b&&aR c' d' c d);rw[jK a,jK c]
 |int=>obtain⟨n,rfl⟩:=ha;obtain⟨n',rfl⟩:=hb;exact BEq.comm
 |jj=>obtain⟨a,b,rfl⟩:=ha;obtain⟨a',b',rfl⟩:=hb;show (a==a'&&b==b')=(a'==a&&b'==b);rw[BEq.comm (a:=a),BEq.comm (a:=b)]
 |Ie=>obtain⟨a,b,n,p,rfl⟩:=ha;obtain⟨a',b',n',p',rfl⟩:=hb;show (aR a b a' b'&&(n==n'&&p==p'))=(aR a' b' a b&&(n'==n&&p'==p));rw[jK a,BEq.comm (a:=n),BEq.comm (a:=p)]
theorem j8 {pk:KK}{a b x:AV}(ha:cK pk a)(hb:cK pk b)(hx:cK pk x)(h:aW a b=true):aW a x=aW b x:=by
 cases pk with
 |str=>obtain⟨l,n,rfl⟩:=ha;obtain⟨l',n',rfl⟩:=hb;obtain⟨l2,n2,rfl⟩:=hx;exact iR h
 |mE=>obtain⟨l,n,rfl,_⟩:=ha;obtain⟨l',n',rfl,_⟩:=hb;obtain⟨l2,n2,rfl,_⟩:=hx;exact iR h
 |pair =>
  obtain⟨a,b,c,d,rfl⟩:=ha;obtain⟨a',b',c',d',rfl⟩:=hb;obtain⟨a2,b2,c2,d2,rfl⟩:=hx;have h:(aR a b a' b'&&aR c d c' d')=true:=h;rw[za]at h;show (aR a b a2 b2&&aR c d c2 d2)=(aR a' b' a2 b2&&aR c' d' c2 d2);rw[iR h.1,iR h.2]
 |int =>
  obtain⟨n,rfl⟩:=ha;obtain⟨n',rfl⟩:=hb;obtain⟨n2,rfl⟩:=hx;have h:(n==n')=true:=h;rw[beq_iff_eq]at h;subst h;rfl
 |jj =>
  obtain⟨a,b,rfl⟩:=ha;obtain⟨a',b',rfl⟩:=hb;obtain⟨a2,b2,rfl⟩:=hx;have h:(a==a'&&b==b')=true:=h;rw[za,beq_iff_eq,beq_iff_eq]at h;obtain⟨rfl,rfl⟩:=h;rfl
 |Ie =>
  obtain⟨a,b,n,p,rfl⟩:=ha;obtain⟨a',b',n',p',rfl⟩:=hb;obtain⟨a2,b2,n2,p2,rfl⟩:=hx;have h:(aR a b a' b'&&(n==n'&&p==p'))=true:=h;rw[za,za,beq_iff_eq,beq_iff_eq]at h;obtain⟨h1,rfl,rfl⟩:=h;show (aR a b a2 b2&&(n==n2&&p==p2))=(aR a' b' a2 b2&&(n==n2&&p==p2));rw[iR h1]
def bD (k:AV):List (AV×AV)->Option AV
 | []=>none
 |p::es=>bif aW k p.1 then some p.2 else bD k es
def ez (k v:AV):List (AV×AV)->List (AV×AV)
 | []=>[(k,v)]
 |p::es=>bif aW k p.1 then (p.1,v)::es else p::ez k v es
theorem nX {pk:KK}{k v x:AV}(hk:cK pk k)(hx:cK pk x):∀{es:List (AV×AV)},(∀p∈es,cK pk p.1)->bD x (ez k v es)=if aW x k=true then some v else bD x es
 | [],_=>by
   show (bif aW x k then some v else none)=_;cases aW x k<;>rfl
 |p::es,h=>by
  have hp:=h p (zac ..);have ih:=nX hk hx (v:=v) (es:=es) fun q hq=>h q (zaa _ hq)
  have hs:aW k p.1=true->aW x k=aW x p.1:=fun e=>by
   rw[oZ hx hk,oZ hx hp];exact j8 hk hp hx e
  cases hkp:aW k p.1 with
  |true =>
   have e1:ez k v (p::es)=(p.1,v)::es:=by show (bif aW k p.1 then _ else _)=_;rw[hkp];rfl
   rw[e1,hs hkp];show (bif aW x p.1 then some v else bD x es)=if aW x p.1=true then some v else bif aW x p.1 then some p.2 else bD x es
   cases aW x p.1<;>rfl
  |false =>
   have e1:ez k v (p::es)=p::ez k v es:=by show (bif aW k p.1 then _ else _)=_;rw[hkp];rfl
   rw[e1];show (bif aW x p.1 then some p.2 else bD x (ez k v es))=if aW x k=true then some v else bif aW x p.1 then some p.2 else bD x es
   rw[ih];cases hxp:aW x p.1 with
   |true =>
    have:aW x k=false:=by
     cases hxk:aW x k with
     |false=>rfl
     |true =>
      have:=j8 hx hk hp hxk;rw[hxp,hkp]at this;cases this
    rw[this];rfl
   |false=>cases aW x k<;>rfl
theorem gA {pk:KK}{k v:AV}(hk:cK pk k):∀{es:List (AV×AV)},(∀p∈es,cK pk p.1)->∀p∈ez k v es,cK pk p.1
 | [],_,p,h=>by rw[List.mem_singleton.1 h];exact hk
 |q::es,h0,p,h=>by
  have h:p∈(bif aW k q.1 then (q.1,v)::es else q::ez k v es):=h;cases hq:aW k q.1 with
  |true =>
   rw[hq]at h;rcases List.mem_cons.1 h with rfl|h
   ·exact h0 q (zac ..)
   ·exact h0 p (zaa _ h)
  |false =>
   rw[hq]at h;rcases List.mem_cons.1 h with rfl|h
   ·exact h0 _ (zac ..)
   ·exact gA hk (fun r hr=>h0 r (zaa _ hr)) p h
theorem iS {k v:AV}:∀{es:List (AV×AV)}{p:AV×AV},p∈ez k v es->p.2=v∨p∈es
 | [],p,h=>by rw[List.mem_singleton.1 h];exact .inl rfl
 |q::es,p,h=>by
  have h:p∈(bif aW k q.1 then (q.1,v)::es else q::ez k v es):=h;cases hq:aW k q.1 with
  |true =>
   rw[hq]at h;rcases List.mem_cons.1 h with rfl|h
   ·exact .inl rfl
   ·exact .inr (zaa _ h)
  |false =>
   rw[hq]at h;rcases List.mem_cons.1 h with rfl|h
   ·exact .inr (zac ..)
   ·exact (iS h).imp_right (zaa _)
theorem jA {k v:AV}:∀{es:List (AV×AV)},bD k es=some v->∃p∈es,p.2=v
 | [],h=>by cases h
 |p::es,h=>by
  have h:(bif aW k p.1 then some p.2 else bD k es)=some v:=h;cases hq:aW k p.1 with
  |true=>rw[hq]at h;exact⟨p,zac ..,Option.some.inj h⟩
  |false =>
   rw[hq]at h;obtain⟨q,h1,h2⟩:=jA h;exact⟨q,zaa _ h1,h2⟩
def su:List (AV×AV)->List MapEntry->List ME
 |p::es,e::E=>⟨p.1,p.2,e.born⟩::su es E
 |_,_=>[]
theorem uv:∀{es:List (AV×AV)}{E:List MapEntry}{ι:En},E.map (fun e=>(e.key,e.val))=es.map (fun e=>(ak ι e.1,ak ι e.2))->E=(su es E).map (dP ι)/\(su es E).map (fun e=>(e.key,e.val))=es
 | [],[],_,_=>⟨rfl,rfl⟩
 | [],_::_,_,h=>by cases h
 |_::_,[],_,h=>by cases h
 |p::es,e::E,ι,h=>by
  rw[zal,zal,List.cons.injEq]at h;obtain⟨h1,h2⟩:=h;obtain⟨i1,i2⟩:=uv h2;rw[Prod.mk.injEq]at h1;refine⟨?_,by show (p.1,p.2)::_=_;rw[i2]⟩;show e::E=dP ι ⟨p.1,p.2,e.born⟩::(su es E).map (dP ι);rw[<-i1];congr 1;cases e with
  |mk k v b=>simp only[dP]at h1 ⊢;rw[h1.1,h1.2]
theorem pc {P:Program}{kt:TypeId}{pk:KK}{k:AV}(hM:oY P kt pk)(hk:cK pk k):∀{es:List ME},(∀e∈es,cK pk e.key)->bD k (es.map fun e=>(e.key,e.val))=none->Found P kt k es none
 | [],_,_=>fun e he=>by cases he
 |x::es,h0,h=>by
  have h:(bif aW k x.key then some x.val else bD k (es.map fun e=>(e.key,e.val)))=none:=h;cases hq:aW k x.key with
  |true=>rw[hq]at h;cases h
  |false =>
   rw[hq]at h;intro e he;rcases List.mem_cons.1 he with rfl|he
   ·rw[<-hq];exact hM.eq _ _ hk (h0 _ (zac ..))
   ·exact pc hM hk (fun e he=>h0 e (zaa _ he)) h e he
theorem pd {P:Program}{kt:TypeId}{pk:KK}{k v:AV}(hM:oY P kt pk)(hk:cK pk k):∀{es:List ME},(∀e∈es,cK pk e.key)->bD k (es.map fun e=>(e.key,e.val))=some v ->
  ∃pre e post,es=pre++e::post/\e.val=v/\aW k e.key=true/\(∀x∈pre,aW k x.key=false)/\Found P kt k es (some (pre.length,e))
 | [],_,h=>by cases h
 |x::es,h0,h=>by
  have h:(bif aW k x.key then some x.val else bD k (es.map fun e=>(e.key,e.val)))=some v:=h;cases hq:aW k x.key with
  |true =>
   rw[hq]at h;exact⟨[],x,es,rfl,Option.some.inj h,hq,(fun _ h=>by cases h),[],es,rfl,rfl,(fun _ h=>by cases h),by rw[<-hq];exact hM.eq _ _ hk (h0 _ (zac ..))⟩
  |false =>
   rw[hq]at h;obtain⟨pre,e,post,h1,h2,h3,h4,pre',post',h5,h6,h7,h8⟩:=pd hM hk (fun e he=>h0 e (zaa _ he)) h;have hn:xx P 9 kt k x.key false:=by rw[<-hq];exact hM.eq _ _ hk (h0 _ (zac ..))
   refine⟨x::pre,e,post,by rw[h1];rfl,h2,h3,fun y hy=>?_,x::pre',post',by rw[h5];rfl,by rw[zbi,zbi,h6],fun y hy=>?_,h8⟩
   ·rcases List.mem_cons.1 hy with rfl|hy
    ·exact hq
    ·exact h4 y hy
   ·rcases List.mem_cons.1 hy with rfl|hy
    ·exact hn
    ·exact h7 y hy
theorem nE {k v:AV}:∀{es:List (AV×AV)},bD k es=none->ez k v es=es++[(k,v)]
 | [],_=>rfl
 |p::es,h=>by
  have h:(bif aW k p.1 then some p.2 else bD k es)=none:=h;show (bif aW k p.1 then (p.1,v)::es else p::ez k v es)=_;cases hq:aW k p.1 with
  |true=>rw[hq]at h;cases h
  |false=>rw[hq]at h;rw[cond_false,nE h];rfl
theorem AM {k v:AV}:∀{pre post:List (AV×AV)}{e:AV×AV},(∀x∈pre,aW k x.1=false)->aW k e.1=true->ez k v (pre++e::post)=pre++(e.1,v)::post
 | [],post,e,_,h=>by show (bif aW k e.1 then _ else _)=_;rw[h];rfl
 |p::pre,post,e,h0,h=>by
  show (bif aW k p.1 then _ else p::ez k v (pre++e::post))=_;rw[h0 p (zac ..),cond_false,AM (fun x hx=>h0 x (zaa _ hx)) h];rfl
section
variable {P:Program}{n0 nt:Nat}{T T2:Tm}{hp H:Tr AO}{nx X:Pz}{G:GH}{ops:Array Oper}{aF:List Nat}{i m d:Nat}{v u:AV}
theorem bq.lookup {t kt et:TypeId}{ym yk:Operand}{ok:Bool}{pk:KK}{z k:AV}{b:Nat}{es:List (AV×AV)}(hg:(af ops i).guard=none)(ho:(af ops i).op=.lookup t ym yk ok)(hu:P.underlying t=some (.map kt et))(hz:zeroOf P et=some z)(hM:oY P kt pk)
  (hm:bH nt T ym (.cV b)) (hk:bH nt T yk k) (hkf:cK pk k) (hb:G b=some (.map es)) (hes:∀p∈es,cK pk p.1) :
  bq P ops n0 nt i T hp nx G (match bD k es with|some v=>(if ok then .dC [v,.bool true]else v)|none=>(if ok then .dC [z,.bool false]else z)):=by
 refine cY hg fun B w0 ι a w hs=>?_;have hval:=(hs.1.2 ι (al.refl _ _)).1;obtain⟨_,E,clock,h1,h2,h3,_⟩:=hs.2.1 b _ hb;obtain⟨i1,i2⟩:=uv (h3 ι);obtain⟨dd,hd⟩:=hM.Qx;obtain⟨_,zv,_,_,_,hzero⟩:=cJ hz
 have hkeys:∀e∈su es E.toList,cK pk e.key:=fun e he=>by
  have:(e.key,e.val)∈(su es E.toList).map (fun e=>(e.key,e.val)):=List.mem_map.2 ⟨e,he,rfl⟩;rw[i2]at this;exact hes _ this
 simp only[execOp,ho,Sem.run_bind];rw[hm ι a hval,hk ι a hval];cases hf:bD k es with
 |none =>
  have hfind:=fU (ι:=ι) (w:=w) hd (pc hM hkf hkeys (by rw[i2];exact hf));rw[<-i1]at hfind;simp only[ak,Instr.lookup,Sem.run_bind,ay hu,Result.andThen_ok,cq h1,Sem.run_pure,hM.DR k hkf,hfind,fi,hzero ι];cases ok<;>simp[ak,ao]
 |some v =>
  obtain⟨pre,e,post,e1,e2,e3,e4,hfd⟩:=pd hM hkf hkeys (by rw[i2];exact hf);have hfind:=fU (ι:=ι) (w:=w) hd hfd;rw[<-i1]at hfind;subst e2;simp only[ak,Instr.lookup,Sem.run_bind,ay hu,Result.andThen_ok,cq h1,Sem.run_pure,hM.DR k hkf,hfind,fi,hzero ι];cases ok<;>simp[ak,ao]
theorem wD {w:World}{b k:Nat}{E:Array MapEntry}{cl:Nat}(h:k≠b):(jH w b E cl).heap[k]?=w.heap[k]?:=by
 show (w.heap.setIfInBounds _ _)[k]?=_;rw[zck (fun e=>h e.symm)]
theorem uw {α β:Type}{g:α->β}{f:α->α}(h:∀x,g (f x)=g x):∀{l:List α}{i:Nat},(l.modify i f).map g=l.map g
 | [],i=>by cases i<;>rfl
 |x::l,0=>by show g (f x)::l.map g=g x::l.map g;rw[h]
 |x::l,i+1=>by show g x::(l.modify i f).map g=g x::l.map g;rw[uw h]
theorem qD {k v v0:AV}:∀{es:List (AV×AV)},bD k es=some v0->(ez k v es).length=es.length
 | [],h=>by cases h
 |p::es,h=>by
  have h:(bif aW k p.1 then some p.2 else bD k es)=some v0:=h;show (bif aW k p.1 then (p.1,v)::es else p::ez k v es).length=_;cases hq:aW k p.1 with
  |true=>rfl
  |false=>rw[hq]at h;rw[cond_false,zbi,zbi,qD h]
theorem gm.ux {t kt et:TypeId}{ym yk yv:Operand}{pk:KK}{k:AV}{b:Nat}{es:List (AV×AV)}{R:Tm->Tr AO->Pz->GH->Prop}(hg:(af ops i).guard=none)(hd0:(af ops i).dst=none)(ho:(af ops i).op=.mapUpdate t ym yk yv)(hu:P.underlying t=some (.map kt et))(hM:oY P kt pk)
  (hm:bH nt T ym (.cV b)) (hk:bH nt T yk k) (hx:bH nt T yv v) (hkf:cK pk k) (hnf:nf v) (hb:G b=some (.map es)) (hes:∀p∈es,cK pk p.1)
  (hr:R T hp nx (dj G b (.map (ez k v es)))):gm P n0 nt ops i T hp nx G R:=by
 intro B w0 ι a w hs;refine .inl ⟨by simp[Region.wanted,hg],?_⟩;rw[hd0];have hval:=(hs.1.2 ι (al.refl _ _)).1;obtain⟨hnB,E,clock,h1,h2,h3,h5,h6⟩:=hs.2.1 b _ hb;obtain⟨i1,i2⟩:=uv (h3 ι);obtain⟨dd,hd⟩:=hM.Qx
 have hkeys:∀e∈su es E.toList,cK pk e.key:=fun e he=>by
  have:(e.key,e.val)∈(su es E.toList).map (fun e=>(e.key,e.val)):=List.mem_map.2 ⟨e,he,rfl⟩;rw[i2]at this;exact hes _ this
 have hnb:∀id ob,hp.get id=some ob->own hp ob->ι.aS id≠b:=fun id ob hid hown e=>by
  have:=hs.2.2.1 id ob hid hown;rw[e,hb]at this;cases this
 have hlt:=(Array.getElem?_eq_some_iff.1 h1).1
 -- what the write leaves
 have done:∀(E':Array MapEntry) (cl':Nat),(execOp a.eval (af ops i)).run P w=.ok .skip (jH w b E' cl')->E'.toList.map (fun e=>(e.key,e.val))=(ez k v es).map (fun e=>(ak ι e.1,ak ι e.2))->E'.toList.map (fun e=>e.born)=List.range (ez k v es).length->cl'=(ez k v es).length ->
   dh P (execOp a.eval (af ops i)) w fun cv w'=>∃T' hp' nx' G' ι2,R T' hp' nx' G'/\c8 n0 B w0 nt T' hp' nx' G' ι2 (a.put none cv) w':=by
  intro E' cl' hrun hE' hB' hC'
  have hkept:Kept (fun k=>B k∨vt hp ι k) w (jH w b E' cl'):=by
   refine⟨rfl,rfl,rfl,by simp[jH],fun q hq=>wD (fun e=>?_)⟩;subst e;rcases hq with hB|⟨id,ob,hid,hown,e⟩
   ·exact hnB hB
   ·exact hnb id ob hid hown e
  have hnf2:∀e∈ez k v es,nf e.1/\nf e.2:=fun e he=>by
   refine⟨(gA hkf hes e he).nf,?_⟩;rcases iS he with h|h
   ·rw[h];exact hnf
   ·exact (h2 e h).2
  have hgh:qA B (jH w b E' cl') b (.map (ez k v es)):=by
   refine⟨hnB,E',cl',?_,hnf2,fun ι'=>?_,hB',hC'⟩
   ·show (w.heap.setIfInBounds _ _)[b]?=_;simp[hlt]
   ·rw[hE'];refine zav fun e he=>?_;rw[(hnf2 e he).1 ι ι',(hnf2 e he).2 ι ι']
  have hsn:=lj (b:=b) (g:=.map (ez k v es)) hs hkept (fun q g' hne _=>wD hne) hgh hnb;exact .inl ⟨undef,_,.inr ⟨hrun,rfl⟩,_,_,_,_,ι,hr,hsn⟩
 cases hf:bD k es with
 |none =>
  have hfind:=fU (ι:=ι) (w:=w) hd (pc hM hkf hkeys (by rw[i2];exact hf));rw[<-i1]at hfind;refine done (E.push ⟨ak ι k,ak ι v,clock⟩) (clock+1) ?_ ?_ (by rw[nE hf,Array.toList_push,zat,h5,zak,List.length_singleton,List.range_succ,h6];rfl) (by rw[nE hf,zak,List.length_singleton,h6])
  ·simp only[execOp,ho,Sem.run_bind];rw[hm ι a hval,hk ι a hval,hx ι a hval];simp only[ak,Instr.mapUpdate,Sem.run_bind,ay hu,Result.andThen_ok,cq h1,hM.DR k hkf,hfind,fi,fj h1,Sem.run_pure]
  ·rw[nE hf,Array.toList_push,zat,zat,h3 ι];rfl
 |some v0 =>
  obtain⟨pre,e,post,e1,e2,e3,e4,hfd⟩:=pd hM hkf hkeys (by rw[i2];exact hf);have hfind:=fU (ι:=ι) (w:=w) hd hfd;rw[<-i1]at hfind;have hat:=ud hfd
  obtain⟨hb1,hb2⟩:=ub (Ig (hkeys e (by rw[e1];simp)) hkf (by
   have:=j8 hkf (hkeys e (by rw[e1];simp)) hkf e3
   rw[Cq hkf]at this;exact this.symm)) ι
  refine done (E.modify pre.length fun y=>{ y with key:=ak ι k,val:=ak ι v }) clock ?_ ?_ (by rw[Array.toList_modify];exact (uw (g:=fun e:MapEntry=>e.born) (f:=fun y=>{ y with key:=ak ι k,val:=ak ι v }) fun _=>rfl).trans (by rw[h5,qD hf])) (by rw[qD hf,h6])
  ·simp only[execOp,ho,Sem.run_bind];rw[hm ι a hval,hk ι a hval,hx ι a hval];simp only[ak,Instr.mapUpdate,Sem.run_bind,ay hu,Result.andThen_ok,cq h1,hM.DR k hkf,hfind,fi,zaq,Ox i1 hat,zbk,zca,Instr.keyThatStays];rw[show (dP ι e).key=ak ι e.key from rfl,hb2];simp only[if_true,Sem.run_pure,Result.andThen_ok,fj h1]
  ·rw[qo _ _ _ _ i1,nu ι v _ _ _ e hat hb1.symm];have:es=pre.map (fun e=>(e.key,e.val))++(e.key,e.val)::post.map (fun e=>(e.key,e.val)):=by rw[<-i2,e1];simp
   have hput:ez k v es=pre.map (fun e=>(e.key,e.val))++(e.key,v)::post.map (fun e=>(e.key,e.val)):=by
    rw[this];exact AM (fun x hx=>by obtain⟨y,hy,rfl⟩:=List.mem_map.1 hx;exact e4 y hy) e3
   rw[hput,e1];simp[dP];rfl
end
end Go.aI
namespace Go.aI
open Go.RowKit
section
variable {P:Program}{n0 nt:Nat}{T T2:Tm}{hp H:Tr AO}{nx X:Pz}{G:GH}{ops:Array Oper}{aF:List Nat}{i m d:Nat}{v u:AV}
theorem bq.OL {t:TypeId}{yx yi:Operand}{kd:IntKind}{l n j:Nat}(hg:(af ops i).guard=none)(ho:(af ops i).op=.index t yx yi)(hu:P.underlying t=some .string)(hx:bH nt T yx (.str l n))(hi:bH nt T yi (.int kd (.ofNat j)))(hlt:j<l) :
  bq P ops n0 nt i T hp nx G (.int .u8 (.ofNat (Nat.mod (Nat.div n (lG (Nat.sub l (j+1)))) 256))):=by
 refine cY hg fun B w0 ι a w hs=>?_;have ha:=(hs.1.2 ι (al.refl _ _)).1;simp only[execOp,ho];rw[hx ι a ha,hi ι a ha,er,er];simp only[ak,Instr.index,asIntOf,Sem.run_bind,Sem.run_pure,Result.andThen_ok,ay hu]
 have hget:(ByteArray.mk (bytesOf l n).toArray)[j]?=some (UInt8.ofNat (n/256 ^ (l-(j+1))%256)):=by
  have:=nb l n j hlt;have hsz:j<(ByteArray.mk (bytesOf l n).toArray).size:=by show j<(bytesOf l n).toArray.size;simp[aD,hlt]
  rw[getElem?_pos _ j hsz];have hsz':j<(bytesOf l n).length:=by rw[aD];exact hlt
  rw[zap hsz']at this;rw[<-Option.some.inj this];rfl
 rw[if_pos (by omega)];simp only[zcy,hget,Sem.run_pure,Result.andThen_ok];rw[js];congr 4;simp only[zdm];show n/256 ^ (l-(j+1))%256%2 ^ 8=n/256 ^ (l-(j+1))%256;omega
theorem Ih {x h d0:Nat}{kd:IntKind}(hx:T.at x=.int kd (.ofNat h)):Bd T (some (.tmp x)) d0 h:=.inr ⟨.tmp x,kd,rfl,fun ι nt a ha=>by
 show a.tmps.getD x undef=_
 rw[ha.val x,hx,er]⟩
theorem bq.Q5 {t:TypeId}{yx:Operand}{x l n h:Nat}{kd:IntKind}(hg:(af ops i).guard=none)(ho:(af ops i).op=.slice t yx none (some (.tmp x)) none)(hu:P.underlying t=some .string)(hx:bH nt T yx (.str l n))(hh:T.at x=.int kd (.ofNat h))(hle:h<=l) :
  bq P ops n0 nt i T hp nx G (.str h (Nat.div n (lG (Nat.sub l h)))):=by
 refine cY hg fun B w0 ι a w hs=>?_;have ha:=(hs.1.2 ι (al.refl _ _)).1;have hsz:(ByteArray.mk (bytesOf l n).toArray).size=l:=by show (bytesOf l n).toArray.size=l;simp[aD]
 have hb:=jx (P:=P) (w:=w) (lo:=none) (hi:=some (.tmp x)) (b:=false) (len:=l) (cap:=l) ha (Ih hh) (.inl ⟨rfl,rfl⟩) (zbl h) hle;simp only[zbx,zbk]at hb;simp only[execOp,ho];rw[hx ι a ha];simp only[ak,zbx,zbk,Instr.sliceAt,Instr.slice,Sem.run_bind,ay hu,Result.andThen_ok,zdl,zag,if_false,Sem.run_pure];rw[hsz,hb];simp only[Result.andThen_ok,Sem.run_pure,Result.ok.injEq,and_true,Next.value.injEq,Value.string.injEq];apply ByteArray.ext;rw[zee];apply Array.ext';simp only[Array.toList_extract,js]
 have e1:bytesOf h (n/256 ^ (l-h))=(bytesOf l n).take h:=by
  have:=lO (l-h) h n;rw[show h+(l-h)=l by omega]at this;exact this
 show _=bytesOf h (n/256 ^ (l-h));rw[e1];simp
theorem bq.T9 {t el:TypeId}{yx:Operand}{x b len cap h:Nat}{kd:IntKind}(hg:(af ops i).guard=none)(ho:(af ops i).op=.slice t yx none (some (.tmp x)) none)(hu:P.underlying t=some (.slice el))(hi:(P.info? el).isSome=true)(hx:bH nt T yx (.cN b 0 len cap))(hh:T.at x=.int kd (.ofNat h))(hle:h<=cap) :
  bq P ops n0 nt i T hp nx G (.cN b 0 h cap):=by
 refine cY hg fun B w0 ι a w hs=>?_;have ha:=(hs.1.2 ι (al.refl _ _)).1;obtain⟨k,hk⟩:=Option.isSome_iff_exists.1 hi;have hb:=jx (P:=P) (w:=w) (lo:=none) (hi:=some (.tmp x)) (b:=true) (len:=len) (cap:=cap) ha (Ih hh) (.inl ⟨rfl,rfl⟩) (zbl h) hle;simp only[zbx,zbk]at hb;simp only[execOp,ho];rw[hx ι a ha];simp only[ak,gL,zbx,zbk,Sem.run_bind];rcases oP hu (b:=b) (q:=0) hb with e|e
 ·rw[e];by_cases hc:cap=0
  ·rw[if_pos hc];simp
  ·rw[if_neg hc];simp
 ·rw[e]at hk;cases hk
theorem DS {g:Gh}{y:Obj}{B:Nat->Prop}{w0 w:World}{ι:En}{a:Act}(hs:c8 n0 B w0 nt T hp nx G ι a w)(hgh:(∀k,B k->k<w.heap.size)->qA B (w.alloc y) w.heap.size g) :
  c8 n0 B w0 nt T hp nx (dj G w.heap.size g) ι a (w.alloc y)/\n0<=w.heap.size/\G w.heap.size=none:=by
 have c0:=(hs.1.2 ι (al.refl _ _)).2
 have hroom:∀k,(B k∨vt hp ι k)->k<w.heap.size:=fun k hk=>by
  rcases hk with hk|⟨id,o,hid,hown,rfl⟩
  ·exact c0.room k hk
  ·exact qB hs id o hid hown
 refine⟨lj hs ((Kept.refl _ _).alloc (fun k hk=>hroom k hk) _) (fun k g' hne hk=>Below.heap_alloc _ _ _ (hs.2.1 k g' hk).lt) (hgh fun k hk=>hroom k (.inl hk)) (fun id o hid hown e=>?_),hs.2.2.2.1,?_⟩
 ·have:=qB hs id o hid hown;omega
 ·cases hg:G w.heap.size with
  |none=>rfl
  |some g=>exact absurd (hs.2.1 _ _ hg).lt (by omega)
theorem gm.AN {t:TypeId}{R:Tm->Tr AO->Pz->GH->Prop}(hg:(af ops i).guard=none)(hd:(af ops i).dst=some d)(hlt:d<nt)(ho:(af ops i).op=.makeMap t none)
  (hr:∀b,n0<=b->G b=none->R (T.put d (.cV b)) hp nx (dj G b (.map []))):gm P n0 nt ops i T hp nx G R:=by
 intro B w0 ι a w hs;refine .inl ⟨by simp[Region.wanted,hg],?_⟩;rw[hd]
 have hrun:(execOp a.eval (af ops i)).run P w=.ok (.value (.map (some w.heap.size))) (w.alloc (.map #[] 0)):=by
  simp only[execOp,ho,zbx,Sem.run_bind];rw[show (Instr.makeMap t none).run P w=.ok (.map (some w.heap.size)) (w.alloc (.map #[] 0))from rfl];rfl
 obtain⟨h1,h2,h3⟩:=DS (g:=.map []) (y:=.map #[] 0) hs fun hB=>⟨fun h=>absurd (hB _ h) (by omega),#[],0,bO w _,(fun e h=>by cases h),(fun ι=>rfl),rfl,rfl⟩;exact .inl ⟨_,_,.inl hrun,_,_,_,_,ι,hr _ h2 h3,gz h1 hlt (xU _) (by simp[ak])⟩
end
end Go.aI
namespace Go.aI
open Go.RowKit
section
variable {P:Program}{n0 nt:Nat}{T T2:Tm}{hp H:Tr AO}{nx X:Pz}{G:GH}{ops:Array Oper}{aF:List Nat}{i m d:Nat}{v u:AV}{call:bP}
theorem gm.xY {kd:BK}(hkd:kd≠.raw){t el:TypeId}{x b o size n:Nat}{y:Operand}{C:List AV}{R:Tm->Tr AO->Pz->GH->Prop}(hg:(af ops i).guard=none)(hd:(af ops i).dst=none)(ho:(af ops i).op=.store t (.tmp x) y)(hx:T.at x=.cu b o)(hy:bH nt T y u)
  (hi:(P.info? t).isSome=true) (hn:ae P t=n) (hl:u.cells.length=n) (hfl:flat u.cells=true) (hnf:lC u.cells) (hb:G b=some (.cells kd el size C)) (hle:o+n<=C.length)
  (hr:R T hp nx (dj G b (.cells kd el size (vu C o u.cells)))):gm P n0 nt ops i T hp nx G R:=by
 intro B w0 ι a w hsat;refine .inl ⟨by simp[Region.wanted,hg],?_⟩;rw[hd];obtain⟨j,hj⟩:=Option.isSome_iff_exists.1 hi;have hval:=(hsat.1.2 ι (al.refl _ _)).1;obtain⟨hnC,A,fz,h1,h2,h3,h4,h5⟩:=hsat.2.1 b _ hb;obtain⟨hnB,hfz⟩:=h5 hkd
 have hnb:∀id ob,hp.get id=some ob->own hp ob->ι.aS id≠b:=fun id ob hid hown e=>by
  have:=hsat.2.2.1 id ob hid hown;rw[e,hb]at this;cases this
 have hrl:(ao ι u.cells).length=n:=by rw[aq,hl]
 have hcan:lQ w b o (ao ι u.cells).length:=by rw[hrl];exact kT h1 (by omega) hfz
 have hrun:(execOp a.eval (af ops i)).run P w=.ok .skip (bm w b o (ao ι u.cells)):=by
  simp only[execOp,ho];rw[jJ hsat x hx,hy ι a hval];simp only[ak,Instr.storeAt,Instr.sureAddr,storeVar,Sem.run_bind,Sem.run_pure,Result.andThen_ok,dE hj];rw[bZ,if_neg (by simp[hrl,hn])];rw[gZ _ _ _ 0 w (jw ι _ hfl) (by rw[zbu];exact hcan)];simp
 have hk:Kept (fun k=>B k∨vt hp ι k) w (bm w b o (ao ι u.cells)):=eN _ _ _ _ (by
  rintro (hB|⟨id,ob,hid,hown,e⟩)
  ·exact hnB hB
  ·exact hnb id ob hid hown e) (Kept.refl _ _)
 have hgh:qA B (bm w b o (ao ι u.cells)) b (.cells kd el size (vu C o u.cells)):=by
  refine⟨?_,ei A o (ao ι u.cells),fz,de _ _ _ _ _ _ _ h1,by rw[bp];exact h2,by rw[ss (by omega)];exact h3,fun k hk' _ ι'=>?_,fun _=>⟨hnB,by rw[bp];exact hfz⟩⟩
  ·exact iB (iB (AA _ hnC) hnf) (AB _ hnC)
  ·rw[ss (by omega)]at hk';rw[dM _ _ _ _ (by rw[hrl];omega),Ic (by omega),hrl,hl];by_cases hlo:o<=k/\k<o+n
   ·rw[if_pos hlo,if_pos hlo,bu];cases hc':u.cells[k-o]? with
    |none=>rfl
    |some q=>exact congrArg some (hnf q (zba hc') ι ι')
   ·rw[if_neg hlo,if_neg hlo];exact h4 k hk' (fun h=>absurd h hkd) ι'
 have hsn:=lj (b:=b) (g:=.cells kd el size (vu C o u.cells)) hsat hk (fun k g' hne _=>gM _ _ _ _ _ hne) hgh hnb;exact .inl ⟨undef,_,.inr ⟨hrun,rfl⟩,_,_,_,_,ι,hr,hsn⟩
end
end Go.aI
namespace Go.aI
open Go.RowKit
section
variable {P:Program}{n0 nt:Nat}{T T2:Tm}{hp H:Tr AO}{nx X:Pz}{G:GH}{ops:Array Oper}{i d:Nat}{v u:AV}
theorem ll {x y:Code}{K:Ex->Tm->Tr AO->Pz->GH->Prop}{b:Bool}(h:dx P n0 nt (bif b then x else y) T hp nx G K):dx P n0 nt (.cond (.const (.bool b)) x y) T hp nx G K:=fun r hr B w0 w ι a hs Q hn=>by
 cases b with
 |true=>exact wpIn_cond_true rfl (h r (hr.imp_right fun h=>by simp only[cQ,za]at h;exact h.1) B w0 w ι a hs Q hn)
 |false=>exact wpIn_cond_false rfl (h r (hr.imp_right fun h=>by simp only[cQ,za]at h;exact h.2) B w0 w ι a hs Q hn)
end
end Go.aI
namespace Go.aI
open Go.RowKit
section
variable {P:Program}{n0 nt:Nat}{T:Tm}{hp:Tr AO}{nx:Pz}{G:GH}{ops:Array Oper}{i d:Nat}
theorem uy {fo:Operand}{xs:List Operand}{f:Nat}{bs args cs:List AV}(hc:ow (af ops i)=some (fo,xs))(hf:bH nt T fo (.func (.func f) bs cs))(hargs:F4 nt T xs args){w:World}{ι:En}{a:Act}(ht:bW ι nt T a) :
  (execOp a.eval (af ops i)).run P w=(callFunc f (ao ι (bs++(args++cs))).toArray).run P w:=by
 unfold ow at hc;split at hc
 ·rename_i c ho;split at hc
  ·rename_i f' hcal;simp only[Option.some.injEq,Prod.mk.injEq]at hc;obtain⟨rfl,rfl⟩:=hc;have hargs':c.args.map a.eval=(ao ι args).toArray:=by rw[map_mk,hargs.map ht]
   simp only[execOp,ho,resolve,hcal,hargs',hf ι a ht,ak,jV,Deferred.ofValue,Sem.run_bind,Sem.run_pure,Result.andThen_ok,invoke];congr 2;rw[fe,fe];simp
  ·cases hc
 ·cases hc
theorem gm.OM {f:Nat}{bs args cs:List AV}{fo:Operand}{xs:List Operand}{R0:AV->GH->Prop}(hg:(af ops i).guard=none)(hd:(af ops i).dst=some d)(hlt:d<nt)(hc:ow (af ops i)=some (fo,xs))(hf:bH nt T fo (.func (.func f) bs cs))(hev:F4 nt T xs args)
  (hargs:lC (bs++(args++cs))) (hs:Spec P f (bs++(args++cs)) G R0) {R:Tm->Tr AO->Pz->GH->Prop} (hr:∀v G',R0 v G'->nf v->ju n0 G G'->R (T.put d v) hp nx G'):gm P n0 nt ops i T hp nx G R:=by
 intro B w0 ι a w hsat;have ht:=(hsat.1.2 ι (al.refl _ _)).1;refine .inl ⟨by simp[Region.wanted,hg],?_⟩;have hrun:=uy (P:=P) (w:=w) hc hf hev ht;have:=hs.M7 hsat rfl
 have g:dh P (callFunc f (ao ι (bs++(args++cs))).toArray) w fun cv w'=>∃T' hp' nx' G' ι2,R T' hp' nx' G'/\c8 n0 B w0 nt T' hp' nx' G' ι2 (a.put (af ops i).dst cv) w':=by
  refine this.mono fun cv w' ⟨v,G',g1,g2,g3,g4,g5⟩=>⟨T.put d v,hp,nx,G',ι,hr v G' g1 g2 g5,?_⟩;rw[hd];exact gz g4 hlt g2 g3
 unfold dh at g ⊢;rw[hrun];exact g
theorem gm.K3 {f:Nat}{bs args cs:List AV}{fo:Operand}{xs:List Operand}{R0:AV->GH->Prop}(hg:(af ops i).guard=none)(hd:(af ops i).dst=none)(hc:ow (af ops i)=some (fo,xs))(hf:bH nt T fo (.func (.func f) bs cs))(hev:F4 nt T xs args)
  (hargs:lC (bs++(args++cs))) (hs:Spec P f (bs++(args++cs)) G R0) {R:Tm->Tr AO->Pz->GH->Prop} (hr:∀v G',R0 v G'->ju n0 G G'->R T hp nx G'):gm P n0 nt ops i T hp nx G R:=by
 intro B w0 ι a w hsat;have ht:=(hsat.1.2 ι (al.refl _ _)).1;refine .inl ⟨by simp[Region.wanted,hg],?_⟩;have hrun:=uy (P:=P) (w:=w) hc hf hev ht;have:=hs.M7 hsat rfl
 have g:dh P (callFunc f (ao ι (bs++(args++cs))).toArray) w fun cv w'=>∃T' hp' nx' G' ι2,R T' hp' nx' G'/\c8 n0 B w0 nt T' hp' nx' G' ι2 (a.put (af ops i).dst cv) w':=by
  refine this.mono fun cv w' ⟨v,G',g1,g2,g3,g4,g5⟩=>⟨T,hp,nx,G',ι,hr v G' g1 g5,?_⟩;rw[hd];exact g4
 unfold dh at g ⊢;rw[hrun];exact g
theorem bq.Ua {f:Nat}{fs gs:Array Operand}{bs cs:List AV}(hg:(af ops i).guard=none)(ho:(af ops i).op=.makeFunc (.func f) fs gs)(hf:F4 nt T fs.toList bs)(hgs:F4 nt T gs.toList cs):bq P ops n0 nt i T hp nx G (.func (.func f) bs cs):=by
 refine cY hg fun B w0 ι a w hs=>?_;have ht:=(hs.1.2 ι (al.refl _ _)).1;have e1:fs.map a.eval=(ao ι bs).toArray:=by rw[map_mk,hf.map ht]
 have e2:gs.map a.eval=(ao ι cs).toArray:=by rw[map_mk,hgs.map ht]
 simp only[execOp,ho,e1,e2];simp[Instr.makeFunc,ak,jV]
end
end Go.aI
namespace Go.aI
open Go.RowKit
section
variable {P:Program}{n0 nt:Nat}{T:Tm}{hp:Tr AO}{nx:Pz}{G:GH}{ops:Array Oper}{i d:Nat}
theorem uz {B:Nat->Prop}{w:World}{l:Nat}(o:Obj)(h:¬B l):Kept B w (w.putObj l o):=⟨rfl,rfl,rfl,by simp,fun b hb=>World.putObj_heap_other fun e=>h (e▸hb)⟩
theorem iL (w:World)(y:Obj){b:Nat}(h:b<w.heap.size):(w.alloc y).heap[b]?=w.heap[b]?:=by
 show (w.heap.push y)[b]?=_;rw[zdt,if_neg (by omega)]
noncomputable def vw:List Tmp->List AV->Tm->Tm
 |p::ps,v::vs,tm=>vw ps vs (tm.put p v)
 |_,_,tm=>tm
theorem xZ:∀(ps:List Tmp)(vs:List AV)(tm:Tm),(vw ps vs tm).ml=tm.ml
 | [],_,_=>rfl
 |_::_,[],_=>rfl
 |p::ps,v::vs,tm=>by rw[vw,xZ ps vs,Tm.oJ]
theorem DT {ι:En}:∀(ps:List Tmp)(vs:List AV)(tm:Tm)(tmps:Array Value),(∀p∈ps,p<nt)->tmps.size=nt->(∀t,tmps.getD t undef=ak ι (tm.at t)) ->
  ((ps.zip (ao ι vs)).foldl (fun t (p:Tmp×Value)=>t.setIfInBounds p.1 p.2) tmps).size=nt/\∀t,((ps.zip (ao ι vs)).foldl (fun t (p:Tmp×Value)=>t.setIfInBounds p.1 p.2) tmps).getD t undef=ak ι ((vw ps vs tm).at t)
 | [],vs,tm,tmps,_,h1,h2=>by cases vs<;>exact⟨h1,h2⟩
 |p::ps,[],tm,tmps,_,h1,h2=>⟨h1,h2⟩
 |p::ps,v::vs,tm,tmps,hp,h1,h2=>by
  simp only[ao,List.zip_cons_cons,List.foldl_cons];refine DT ps vs _ _ (fun q hq=>hp q (zaa _ hq)) (by rw[zdi];exact h1) fun t=>?_;rw[ql _ _ _ _ _ (by rw[h1];exact hp p (zac ..))];by_cases ht:t=p
  ·subst ht;rw[if_pos rfl,Tm.ec]
  ·rw[if_neg ht,Tm.fT ht];exact h2 t
theorem AP {l nt':Nat}{tm:Tm}{ps:Array Tmp}{x y:Code}{args:List AV}{R:GH->Prop}{ι:En}{w:World}(hrec:G l=some (.eI nt' tm ps x y false))(hx:cQ x=true)(hy:cQ y=true)(hps:∀p∈ps.toList,p<nt')(hlen:ps.size=args.length)(hargs:lC args)(hml:tm.ml=[])
  (h:∀n1,dx P n1 nt' x (vw ps.toList args tm) .e (z 0) G fun e T2 hp2 nx2 G2=>e=.eJ/\hp2=.e/\nx2=z 0/\G2 l=some (.eI nt' tm ps x y false) /\
   dx P n1 nt' y T2 .e (z 0) (dj G2 l (.eI nt' tm ps x y true)) fun e T3 hp3 nx3 G3=>e=.eJ/\G3 l=some (.eI nt' tm ps x y true)/\ju n1 G G3/\R (dj G3 l (.eI nt' tm ps x y false)))
  {B:Nat->Prop} {w0:World} (hc:Core B w0 ι .e w) (hg:AD B G w) :
  dh P (Instr.yield l (ao ι args).toArray) w fun cv w'=>∃v G',(v=.bool true/\R G')/\nf v/\cv=ak ι v/\Core B w0 ι .e w'/\AD B G' w'/\(∀b,(G' b).isSome=true->(G b).isSome=true∨w.heap.size<=b)/\∀b,(G b).isSome=true->(G' b).isSome=true:=by
 obtain⟨hnb,hnf,fnC,tmps,D,h1,h2,h4⟩:=hg l _ hrec;have no:∀{id:Pz} {o:AO} {p:Prop},(Tr.e:Tr AO).get id=some o->p:=fun h=>by rw[Tr.fD]at h;cases h
 have hrun:=run_yield (P:=P) (args:=(ao ι args).toArray) h1 (by simp[aq,<-hlen]);refine .inr (.inr ⟨_,_,_,_,_,w,hrun,roundIn_of_wpIn (F:=Fence.wide) (n:=0) trivial ?_⟩)
 have hfold:(ps.zip (ao ι args).toArray).foldl (fun tmps (t,a)=>tmps.setIfInBounds t a) tmps=(ps.toList.zip (ao ι args)).foldl (fun t (p:Tmp×Value)=>t.setIfInBounds p.1 p.2) tmps:=by
  rw[<-zdd,Array.toList_zip]
 have hsat:c8 w.heap.size (fun b=>B b∨(b<w.heap.size/\G b=none)) w nt' (vw ps.toList args tm) .e (z 0) G ι { tmps:=(ps.zip (ao ι args).toArray).foldl (fun tmps (t,a)=>tmps.setIfInBounds t a) tmps,defers:=[] } w:=by
  refine⟨⟨qx _,fun ι' hι=>⟨?_,?_⟩⟩,fun b g hbg=>(hg b g hbg).bE rfl fun hB=>?_,fun id o h=>no h,zad _,fun b hlt hnone=>.inr ⟨hlt,hnone⟩⟩
  ·rw[hfold,lZ hargs ι ι'];obtain⟨e1,e2⟩:=DT (ι:=ι') ps.toList args tm tmps hps h2 fun t=>h4 t ι';exact⟨e1,by rw[xZ,hml];rfl,e2⟩
  ·refine⟨Kept.refl _ _,fun k hk=>?_,fun id o h=>no h,fun id o h=>no h,fun id id' o o' _ h=>no h,fun id id' f ep es n el c f' ep' tp' es' n' el' c' _ h=>no h⟩;rcases hk with hk|hk
   ·exact hc.room k hk
   ·exact hk.1
  ·rcases hB with hB|hB
   ·exact hB
   ·rw[hbg]at hB;cases hB.2
 refine h _ (some l) (.inr hx) _ w w ι _ hsat _ (fun e T2 hp2 nx2 G2 ι2 a2 w2 hk hs2=>?_);obtain⟨rfl,rfl,rfl,k4,k5⟩:=hk;obtain⟨b1,b2,fn2,tm2,D2,b3,b4,b5⟩:=hs2.2.1 l _ k4;refine⟨_,run_beginRound b3 rfl,?_⟩
 have hs3:=lj (b:=l) (g:=.eI nt' tm ps x y true) (w':=w2.putObj l (.loop { state:=.busy,pending:=none,fn:=fn2,tmps:=tm2,params:=ps,assign:=x,body:=y,defers:=D2 })) hs2 (uz _ (by rintro (h|⟨id,o,h,_⟩);exact b1 h;exact no h)) (fun k g' hk _=>World.putObj_heap_other hk)
  ⟨b1,b2,fn2,tm2,D2,World.putObj_heap_same (Array.getElem?_eq_some_iff.1 b3).1,b4,b5⟩ (fun id o h=>no h)
 refine k5 (some l) (.inr hy) _ w _ ι2 _ hs3 _ (fun e T3 hp3 nx3 G3 ι3 a3 w3 hk hs4=>?_);obtain⟨rfl,q1,q2,q3⟩:=hk;obtain⟨c1,c2,fn3,tm3,D3,c3,c4,c5⟩:=hs4.2.1 l _ q1;refine⟨_,_,run_endRound none c3,.bool true,rfl,.bool true,dj G3 l (.eI nt' tm ps x y false),⟨rfl,q3⟩,lX _,by simp[ak],?_,fun b g hb=>?_,fun b hb=>?_,fun b hb=>?_⟩
 ·have cc:=qw (jz (a:=.e) (fun id o h=>no h) (hs4.1.2 ι3 (al.refl _ _)).2) ι;have hk:=cc.below.trans (uz (l:=l) (.loop { state:=.ready,pending:=none,fn:=fn3,tmps:=tm3,params:=ps,assign:=x,body:=y,defers:=D3 }) (fun h=>c1 h));exact⟨hc.below.trans (hk.mono fun k hk=>.inl hk),fun k hk'=>zaw (hc.room k hk') hk.size,fun id o h=>no h,fun id o h=>no h,fun id id' o o' _ h=>no h,fun id id' f ep es n el c f' ep' tp' es' n' el' c' _ h=>no h⟩
 ·by_cases e:b=l
  ·subst e;rw[au]at hb;cases hb;exact⟨hnb,c2,fn3,tm3,D3,World.putObj_heap_same (Array.getElem?_eq_some_iff.1 c3).1,c4,c5⟩
  ·rw[aV e]at hb;exact (hs4.2.1 b g hb).bE (World.putObj_heap_other e) fun h=>.inl h
 ·by_cases e:b=l
  ·subst e;rw[hrec];exact .inl rfl
  ·rw[aV e]at hb;exact q2.new b hb
 ·by_cases e:b=l
  ·subst e;rw[au];rfl
  ·rw[aV e];exact q2.old b hb
theorem Cr {fo:Operand}{xs:List Operand}{l:Nat}{args:List AV}(hc:ow (af ops i)=some (fo,xs))(hf:bH nt T fo (.zg l))(hargs:F4 nt T xs args){w:World}{ι:En}{a:Act}(ht:bW ι nt T a) :
  (execOp a.eval (af ops i)).run P w=(Instr.yield l (ao ι args).toArray).run P w:=by
 unfold ow at hc;split at hc
 ·rename_i c ho;split at hc
  ·rename_i f' hcal;simp only[Option.some.injEq,Prod.mk.injEq]at hc;obtain⟨rfl,rfl⟩:=hc;have hargs':c.args.map a.eval=(ao ι args).toArray:=by rw[map_mk,hargs.map ht]
   simp only[execOp,ho,resolve,hcal,hargs',hf ι a ht,ak,Deferred.ofValue,Sem.run_bind,Sem.run_pure,Result.andThen_ok,invoke];congr 2;simp
  ·cases hc
 ·cases hc
theorem gm.VV {l nt':Nat}{tm:Tm}{ps:Array Tmp}{x y:Code}{args:List AV}{fo:Operand}{xs:List Operand}{R0:GH->Prop}(hg:(af ops i).guard=none)(hd:(af ops i).dst=some d)(hlt:d<nt)(hc:ow (af ops i)=some (fo,xs))(hf:bH nt T fo (.zg l))(hev:F4 nt T xs args)
  (hrec:G l=some (.eI nt' tm ps x y false)) (hx:cQ x=true) (hy:cQ y=true) (hps:∀p∈ps.toList,p<nt') (hlen:ps.size=args.length) (hargs:lC args) (hml:tm.ml=[])
  (h:∀n1,dx P n1 nt' x (vw ps.toList args tm) .e (z 0) G fun e T2 hp2 nx2 G2=>e=.eJ/\hp2=.e/\nx2=z 0/\G2 l=some (.eI nt' tm ps x y false) /\
   dx P n1 nt' y T2 .e (z 0) (dj G2 l (.eI nt' tm ps x y true)) fun e T3 hp3 nx3 G3=>e=.eJ/\G3 l=some (.eI nt' tm ps x y true)/\ju n1 G G3/\R0 (dj G3 l (.eI nt' tm ps x y false)))
  {R:Tm->Tr AO->Pz->GH->Prop} (hr:∀G',R0 G'->ju n0 G G'->R (T.put d (.bool true)) hp nx G'):gm P n0 nt ops i T hp nx G R:=by
 intro B w0 ι a w hsat;have ht:=(hsat.1.2 ι (al.refl _ _)).1;refine .inl ⟨by simp[Region.wanted,hg],?_⟩;have hrun:=Cr (P:=P) (w:=w) hc hf hev ht;have:=AH (R:=fun v G'=>v=.bool true/\R0 G') (fun B w0 h1 h2=>AP hrec hx hy hps hlen hargs hml h h1 h2) hsat
 have g:dh P (Instr.yield l (ao ι args).toArray) w fun cv w'=>∃T' hp' nx' G' ι2,R T' hp' nx' G'/\c8 n0 B w0 nt T' hp' nx' G' ι2 (a.put (af ops i).dst cv) w':=by
  refine this.mono fun cv w' ⟨v,G',⟨g0,g1⟩,g2,g3,g4,g5⟩=>⟨T.put d v,hp,nx,G',ι,by rw[g0];exact hr G' g1 g5,?_⟩;rw[hd];exact gz g4 hlt g2 g3
 unfold dh at g ⊢;rw[hrun];exact g
theorem AQ {g:Operand}{ps:Array Tmp}{x y:Code}{f:Nat}{fn:Func}{cap:List AV}{K:Ex->Tm->Tr AO->Pz->GH->Prop}(hf:P.funcs[f]?=some fn)(hb:fn.body.isNone=false)(hn:(fn.name == "runtime.NumGoroutine")=false)
  (hev:bH nt T g (.func (.func f) [] cap)) (hcap:lC cap)
  (h:∀l,G l=none->n0<=l->(∀t,nf (T.at t))->Spec P f (.zg l::cap) (dj G l (.eI nt ⟨T.lo,T.hi,[]⟩ ps x y false)) fun v G'=>G' l=some (.eI nt ⟨T.lo,T.hi,[]⟩ ps x y false)/\(ju n0 (dj G l (.eI nt ⟨T.lo,T.hi,[]⟩ ps x y false)) G'->K .eJ ⟨T.lo,T.hi,z 0::T.ml⟩ ((Tr.e:Tr AO).set (z 0) .fa) (z 0).succ (dj G' l .HX))) :
  dx P n0 nt (.rangeFunc g ps x y) T .e (z 0) G K:=by
 intro r hr B w0 w ι a hs Q hnn;have hr:r=none:=hr.resolve_right (by simp[cQ]);subst hr;have no:∀{id:Pz} {o:AO} {p:Prop},(Tr.e:Tr AO).get id=some o->p:=fun h=>by rw[Tr.fD]at h;cases h
 have hnil:∀ι',al (z 0) ι ι':=fun ι' id hid=>by
  have:=Pz.nM id;have e:(z 0).num=1:=by have:=lK 1 1 (by omega) (by omega);exact this
  omega
 have hTnf:∀t,nf (T.at t):=fun t ι1 ι2=>by
  have e1:=(hs.1.2 ι1 (hnil ι1)).1.val t;have e2:=(hs.1.2 ι2 (hnil ι2)).1.val t;rw[<-e1,<-e2]
 refine wpIn_rangeFunc fun fnC _=>?_;obtain⟨rec,hrec⟩:∃rec:Loop,rec={ state:=.ready,pending:=none,fn:=fnC,tmps:=a.tmps,params:=ps,assign:=x,body:=y,defers:=w.heap.size }:=⟨_,rfl⟩;obtain⟨w1,hw1⟩:∃w1,w1=w.alloc (.deferred (some [])):=⟨_,rfl⟩;obtain⟨w2,hw2⟩:∃w2,w2=w1.alloc (.loop rec):=⟨_,rfl⟩;have hsz1:w1.heap.size=w.heap.size+1:=by rw[hw1];simp
 have hsz2:w2.heap.size=w.heap.size+2:=by rw[hw2];simp[hsz1]
 have hl2:w2.heap[w.heap.size+1]?=some (.loop rec):=by rw[hw2,<-hsz1];exact bO _ _
 have hd1:w1.heap[w.heap.size]?=some (.deferred (some [])):=by rw[hw1];exact bO _ _
 have hd2:w2.heap[w.heap.size]?=some (.deferred (some [])):=by rw[hw2,iL _ _ (by omega)];exact hd1
 have hold:∀b,b<w.heap.size->w2.heap[b]?=w.heap[b]?:=fun b hb=>by rw[hw2,iL _ _ (by omega),hw1,iL _ _ hb]
 have hGl:G (w.heap.size+1)=none:=by
  cases hG:G (w.heap.size+1)with
  |none=>rfl
  |some g=>have:=(hs.2.1 _ g hG).lt;omega
 have hGd:G w.heap.size=none:=by
  cases hG:G w.heap.size with
  |none=>rfl
  |some g=>have:=(hs.2.1 _ g hG).lt;omega
 have c0:=(hs.1.2 ι (al.refl _ _)).2;have t0:=(hs.1.2 ι (al.refl _ _)).1
 have ce:Core (fun b=>B b∨b=w.heap.size) w2 ι .e w2:=by
  refine⟨Kept.refl _ _,fun k hk=>?_,fun id o h=>no h,fun id o h=>no h,fun id id' o o' _ h=>no h,fun id id' f ep es n el c f' ep' tp' es' n' el' c' _ h=>no h⟩;rcases hk with hk|rfl
  ·have:=c0.room k hk;omega
  ·omega
 have hge:AD (fun b=>B b∨b=w.heap.size) (dj G (w.heap.size+1) (.eI nt ⟨T.lo,T.hi,[]⟩ ps x y false)) w2:=fun b g hb=>by
  by_cases e:b=w.heap.size+1
  ·subst e;rw[au]at hb;cases hb;refine⟨?_,hTnf,fnC,a.tmps,w.heap.size,by rw[hl2,hrec];rfl,t0.size,fun t ι'=>?_⟩
   ·rintro (h|h)
    ·have:=c0.room _ h;omega
    ·omega
   ·exact (hs.1.2 ι' (hnil ι')).1.val t
  ·rw[aV e]at hb;have hlt:=(hs.2.1 b g hb).lt;exact (hs.2.1 b g hb).bE (hold b hlt) fun h=>h.resolve_right (by omega)
 have hspec:=h (w.heap.size+1) hGl (by have:=hs.2.2.2.1;omega) hTnf _ w2 w2 ι (ao ι (.zg (w.heap.size+1)::cap)).toArray ce hge rfl;obtain⟨hrun,hcalls⟩:=sg hf hb hn hspec;have hargsE:(ao ι (.zg (w.heap.size+1)::cap)).toArray=#[Value.func (.yield (w.heap.size+1)) #[] #[]]++(ao ι cap).toArray:=by simp[ao,ak]
 have hevv:a.eval g=.func (.func f) #[] (ao ι cap).toArray:=by
  rw[hev ι a t0];simp[ak,jV,ao]
 refine⟨w.heap.size+1,[{ target:=.collected w.heap.size,args:=#[] }],w2,{ target:=.fn (.func f) (ao ι cap).toArray,args:=#[.func (.yield (w.heap.size+1)) #[] #[]] },w2,f,#[Value.func (.yield (w.heap.size+1)) #[] #[]]++(ao ι cap).toArray,w2,?_,?_,fun _ _=>trivial,?_,qd,?_⟩
 ·have:=run_enterLoop_outer (P:=P) (w:=w) fnC a.tmps ps x y;rw[hw2,hw1,hrec];exact this
 ·simp only[resolve,rangeCall,hevv,Deferred.ofValue,Sem.run_pure];simp[Act.eval]
 ·simp only[invoke];rw[<-hargsE];exact hrun
 ·rw[<-hargsE];refine CallsIn.mono (tO hcalls none _) fun e w3 he=>?_;obtain⟨cv,rfl,v,G',⟨k1,k2⟩,_,_,k5,k6,k7,k8⟩:=he;obtain⟨b1,b2,fn3,tm3,D3,b3,b4,b5⟩:=k6 _ _ k1;have hrunE:=run_endLoop (P:=P) b3 (by show LoopState.ready≠.busy;intro h;cases h);refine⟨_,_,hrunE,?_⟩;obtain⟨ι4,hι4⟩:∃ι4,ι4=ι.at (z 0) w.heap.size 0 0:=⟨_,rfl⟩
  have hdG:G' w.heap.size=none:=by
   cases hG:G' w.heap.size with
   |none=>rfl
   |some g =>
    rcases k7 w.heap.size (by rw[hG];rfl)with h|h
    ·rw[aV (by omega),hGd]at h;cases h
    ·omega
  have hk13:Kept (fun b=>B b∨b=w.heap.size) w1 (w3.putObj (w.heap.size+1) (.loop { state:=.exhausted,pending:=none,fn:=fn3,tmps:=tm3,params:=ps,assign:=x,body:=y,defers:=D3 })):=by
   have h12:Kept (fun b=>B b∨b=w.heap.size) w1 w2:=by
    rw[hw2]
    exact⟨rfl,rfl,rfl,by simp,fun b hb=>iL _ _ (by
     rcases hb with hb|rfl
     ·have:=c0.room b hb;omega
     ·omega)⟩
   exact (h12.trans k5.below).trans (uz _ b1)
  have k2:=k2 ⟨fun b hb=>(k7 b hb).imp id fun h=>by have:=hs.2.2.2.1;omega,k8⟩;refine hnn .eJ _ _ _ _ ι4 _ _ k2 ⟨⟨oN hs.1.1 rfl (fun _ _ h=>by cases h),fun ι' hι=>⟨?_,?_⟩⟩,fun b g hb=>?_,fun id o hid hown=>?_,?_,fun b hlt hnone=>?_⟩
  ·have hbk:ι'.aS (z 0)=w.heap.size:=by
     rw[hι4]at hι;exact (dw hι).2.1
   have t1:=(hs.1.2 ι' (hnil ι')).1;refine⟨t1.size,?_,fun t=>t1.val t⟩;show [{ target:=.collected w.heap.size,args:=#[] }]++a.defers=marks ι' (z 0::T.ml);rw[t1.defers];simp only[marks,zal,hbk,BZ];rfl
  ·have hbk:ι'.aS (z 0)=w.heap.size:=by
     rw[hι4]at hι;exact (dw hι).2.1
   have d1:Core B w0 ι' ((Tr.e:Tr AO).set (z 0) .fa) w1:=by
    rw[hw1];refine pZ hs.1.1 (hs.1.2 ι' (hnil ι')).2 hbk rfl (fun _ _ h=>by cases h) ?_;show (w.alloc (.deferred (some []))).heap[ι'.aS (z 0)]?=_;rw[hbk];exact bO _ _
   refine oX (ι:=ι') (oN hs.1.1 rfl (fun _ _ h=>by cases h)) (al.refl _ _) d1 (hk13.mono fun b hb=>hb.imp id fun hb=>?_);obtain⟨id,o,hid,_,hb⟩:=hb;by_cases e:id=z 0
   ·subst e;rw[<-hb];exact hbk
   ·rw[Tr.cI e]at hid;exact no hid
  ·by_cases e:b=w.heap.size+1
   ·subst e;rw[au]at hb;cases hb;exact⟨fun h=>b1 (.inl h),by rw[World.putObj_heap_same (Array.getElem?_eq_some_iff.1 b3).1];rfl⟩
   ·rw[aV e]at hb;exact (k6 b g hb).bE (World.putObj_heap_other e) fun h=>.inl h
  ·by_cases e:id=z 0
   ·subst e;have hbk:ι4.aS (z 0)=w.heap.size:=by rw[hι4];exact (dw (al.refl _ _)).2.1
    rw[hbk,aV (by omega)];exact hdG
   ·rw[Tr.cI e]at hid;exact no hid
  ·have hn0:=hs.2.2.2.1;exact zam (by omega:n0<=w1.heap.size) hk13.size
  ·have hn0:=hs.2.2.2.1;have hne:b≠w.heap.size+1:=by omega
   rw[aV hne]at hnone;refine hs.2.2.2.2 b hlt ?_;cases hG:G b with
   |none=>rfl
   |some g =>
    have:=k8 b (by rw[aV hne,hG];rfl);rw[hnone]at this;cases this
end
end Go.aI
