/- Part Xac of the proof of CollectEnds: no condition. -/
import Derived.ChangeSame
import Derived.Test.YtmabojcaklojhaaGreatXab
import Derived.Test.YtmabojcaklojhaaGreatXaa
set_option linter.unusedSimpArgs false
set_option linter.unusedVariables false
namespace Go.aI
open Go.RowKit
section
variable {P:Program}{call:bP}
theorem lU {o:AO}{kk:Nat->Nat->Tm->Array Tmp->Code->Code->LS->Rs}(h:lD o kk=.ok):∃f nt tm ps x y st,o=.loop f nt tm ps x y st/\kk f nt tm ps x y st=.ok:=by
 cases o with
 |loop f nt tm ps x y st=>exact⟨f,nt,tm,ps,x,y,st,rfl,h⟩
 |_=>cases h
theorem B9 {st:LS}{r:Rs}(h:isReady st r=.ok):st=.ready/\r=.ok:=by
 cases st with
 |ready=>exact⟨rfl,h⟩
 |_=>cases h
theorem uf {id:Pz}{st:LS}{hp:Tr AO}{k:Tr AO->Rs}(h:iH id st hp k=.ok):∃f nt tm ps x y st0,hp.get id=some (.loop f nt tm ps x y st0)/\k (hp.set id (.loop f nt tm ps x y st))=.ok:=by
 obtain⟨o,ho,h⟩:=dt h;obtain⟨f,nt,tm,ps,x,y,st0,rfl,g⟩:=lU h;rw[Tr.cz]at g;exact⟨f,nt,tm,ps,x,y,st0,ho,g⟩
theorem ug {nt:Nat}{k:Tm->Rs}:∀(ps:List Tmp)(vs:List AV)(tm:Tm),xi nt ps vs tm k=.ok->∃tm',k tm'=.ok/\tm'.ml=tm.ml/\ps.length=vs.length /\
  ∀ι (tmps:Array Value),tmps.size=nt->(∀t,tmps.getD t undef=ak ι (tm.at t))->((ps.zip (ao ι vs)).foldl (fun t (p:Tmp×Value)=>t.setIfInBounds p.1 p.2) tmps).size=nt/\∀t,((ps.zip (ao ι vs)).foldl (fun t (p:Tmp×Value)=>t.setIfInBounds p.1 p.2) tmps).getD t undef=ak ι (tm'.at t)
 | [],[],tm,h=>⟨tm,h,rfl,rfl,fun ι tmps h1 h2=>⟨h1,h2⟩⟩
 | [],_::_,tm,h=>by cases h
 |_::_,[],tm,h=>by cases h
 |p::ps,v::vs,tm,h=>by
  have h:bV (Nat.blt p nt) ((tC p).run tm v fun tm=>xi nt ps vs tm k) (.bad 286)=.ok:=h;obtain⟨hp,h⟩:=aJ h;have hp:=av hp;rw[lM]at h;obtain⟨tm',hk,hml,hl,hrest⟩:=ug ps vs _ h;refine⟨tm',hk,by rw[hml,Tm.oJ],by simp[hl],fun ι tmps h1 h2=>?_⟩;simp only[ao,List.zip_cons_cons,List.foldl_cons];refine hrest ι _ (by rw[zdi];exact h1) fun t=>?_;rw[ql _ _ _ _ _ (by rw[h1];exact hp)];by_cases ht:t=p
  ·subst ht;rw[if_pos rfl,Tm.ec]
  ·rw[if_neg ht,Tm.fT ht];exact h2 t
theorem Aj {B:Nat->Prop}{w0 w:World}{hp:Tr AO}{nx:Pz}{ι:En}{id:Pz}{f nt:Nat}{tm:Tm}{ps:Array Tmp}{x y:Code}{st0:LS}(hw:Wf hp nx)(ho:hp.get id=some (.loop f nt tm ps x y st0))(hc:∀ι',al nx ι ι'->Core B w0 ι' hp w)(st:LS) :
  ∃r:Loop,w.heap[ι.aS id]?=some (.loop r)/\r.state=vi st0/\r.pending=oL st0/\Wf (hp.set id (.loop f nt tm ps x y st)) nx/\∀ι',al nx ι ι'->Core B w0 ι' (hp.set id (.loop f nt tm ps x y st)) (w.putObj (ι.aS id) (.loop { r with state:=vi st,pending:=oL st })):=by
 obtain⟨fnC,tmps,D,h1,h2,h3,h4⟩:=(hc ι (al.refl _ _)).obj _ _ ho;have hlt:ι.aS id<w.heap.size:=(Array.getElem?_eq_some_iff.1 h1).1;refine⟨_,h1,rfl,rfl,qk hw ho rfl (fun _ _ h=>by cases h) rfl (fun _ _ h=>by cases h),fun ι' hι=>?_⟩;have c1:=hc ι' hι;have hbi:=(hι id (hw.lt _ _ ho)).1;have hbase:=c1.base _ _ ho trivial;rw[hbi]at hbase;obtain⟨fnC',tmps',D',q1,q2,q3,q4⟩:=c1.obj _ _ ho;rw[hbi,h1]at q1;cases q1;have hoth:∀b,b≠ι'.aS id->(w.putObj (ι.aS id) (.loop { state:=vi st,pending:=oL st,fn:=fnC,tmps:=tmps,params:=ps,assign:=x,body:=y,defers:=D })).heap[b]?=w.heap[b]?:=fun b hbne=>World.putObj_heap_other (fun e=>hbne (by rw[hbi];exact e));refine kX ho rfl (fun _ _ h=>by cases h) rfl (fun _ _ h=>by cases h) c1 (c1.below.trans ⟨rfl,rfl,rfl,by simp,fun b hb'=>hoth b (fun e=>hbase (by rw[<-hbi,<-e];exact hb'))⟩) (fun k hk=>by simp;exact c1.room k hk) hoth ?_;exact⟨fnC,tmps,D,by rw[hbi];exact World.putObj_heap_same hlt,q2,q3,q4⟩
theorem HI (hcode:HE P call):DK P call:=by
 intro j vs hp nx k h B w0 w ι cargs hw hc G hG;have hpred:Nat.pred j=j-1:=rfl;unfold xj at h;rw[hpred]at h;generalize hid:aX (j-1)=id at h ⊢;obtain⟨o,ho,h⟩:=dt h;obtain⟨f,nt,tm,ps,x,y,st,rfl,g⟩:=lU h;obtain⟨hno,g⟩:=aJ g;rw[za]at hno;obtain⟨tm',g,hml,hlen,hpar⟩:=ug _ _ _ g;have hidlt:=hw.lt _ _ ho;have hc0:=fun ι' hι=>(hc ι' hι).1;obtain⟨fnC,tmps,D,h1,h2,h3,h4⟩:=(hc0 ι (al.refl _ _)).obj _ _ ho;have hcargs:∀ι',al nx ι ι'->cargs=(ao ι' vs).toArray:=fun ι' hι=>(hc ι' hι).2
 have hfold:∀ι',al nx ι ι'->(ps.zip cargs).foldl (fun tmps (t,a)=>tmps.setIfInBounds t a) tmps=(ps.toList.zip (ao ι' vs)).foldl (fun t (p:Tmp×Value)=>t.setIfInBounds p.1 p.2) tmps:=fun ι' hι=>by
  rw[hcargs ι' hι,<-zdd,Array.toList_zip]
 have hsat:Sat B w0 nt tm' hp nx ι { tmps:=(ps.zip cargs).foldl (fun tmps (t,a)=>tmps.setIfInBounds t a) tmps,defers:=[] } w:=by
  refine⟨hw,fun ι' hι=>⟨?_,hc0 ι' hι⟩⟩;obtain⟨fnC',tmps',D',q1,q2,q3,q4⟩:=(hc0 ι' hι).obj _ _ ho;rw[(hι id hidlt).1,h1]at q1;cases q1;obtain⟨e1,e2⟩:=hpar ι' tmps q2 q4;refine⟨?_,by rw[hml,q3];rfl,fun t=>?_⟩
  ·show ((ps.zip cargs).foldl _ tmps).size=nt;rw[hfold ι' hι];exact e1
  ·show ((ps.zip cargs).foldl _ tmps).getD t undef=_;rw[hfold ι' hι];exact e2 t
 have hrun:=run_yield (P:=P) (args:=cargs) h1 (by rw[hcargs ι (al.refl _ _)];simp[aq,<-hlen]);refine .inr (.inr ⟨_,_,_,_,_,w,hrun,roundIn_of_wpIn (F:=Fence.wide) (n:=0) trivial ?_⟩);refine hcode f nt x tm' hp nx _ g hno.1 (ι.aS id) B w0 w ι _ hsat _ (fun e tm1 hp1 nx1 ι1 a1 w1 hk1 hle1 ha1 hs1=>?_);cases e with
 |ext i=>cases hk1
 |ret=>cases hk1
 |eJ =>
  have hk1:hp1.gw id (.bad 284) (fun o=>lD o fun _ _ _ _ _ _ st=>isReady st (iH id .busy hp1 fun hp =>
    call.code f nt y tm1 hp nx1 fun e _ hp nx=>Ex.rec (motive:=fun _=>Rs)
     (iH id .ready hp fun hp=>k (.bool true) hp nx)
     (fun i=>iH id (.done (.ext i)) hp fun hp=>k (.bool false) hp nx)
     (iH id (.done .ret) hp fun hp=>k (.bool false) hp nx) e))=.ok:=hk1
  obtain⟨o1,ho1,hk1⟩:=dt hk1;obtain⟨f1,nt1,tmx,ps1,x1,y1,st1,rfl,g1⟩:=lU hk1;obtain⟨rfl,g1⟩:=B9 g1;obtain⟨f2,nt2,tm2,ps2,x2,y2,st2,ho2,g2⟩:=uf g1;rw[ho1]at ho2;cases ho2;have hb1:ι1.aS id=ι.aS id:=(ha1 id hidlt).1;obtain⟨r,r1,r2,r3,hw2,hc2⟩:=Aj hs1.1 ho1 (fun ι' hι=>(hs1.2 ι' hι).2) .busy;rw[hb1]at r1 hc2;have hbeg:=run_beginRound (P:=P) r1 r2
  have hreq:({ r with state:=vi .busy,pending:=oL .busy }:Loop)={ r with state:=.busy }:=by
   have:r.pending=none:=r3;rw[this];rfl
  rw[hreq]at hc2;refine⟨_,hbeg,?_⟩;refine hcode f nt y tm1 _ nx1 _ g2 hno.2 (ι.aS id) B w0 _ ι1 a1 ⟨hw2,fun ι' hι=>⟨(hs1.2 ι' hι).1,hc2 ι' hι⟩⟩ _ (fun e tm3 hp3 nx3 ι3 a3 w3 hk3 hle3 ha3 hs3=>?_);have hb3:ι3.aS id=ι.aS id:=((ha1.trans ha3 hle1) id hidlt).1
  have fin:∀(st:LS) (jump:Option Code) (b:Bool),vi st=(if jump.isNone then .ready else .done)->oL st=jump->jump.isNone=b->iH id st hp3 (fun hp=>k (.bool b) hp nx3)=.ok ->
    ∃v w4,(Instr.endRound (ι.aS id) jump).run P w3=.ok v w4/\∃cv,Ending.returned v=.returned cv/\G cv w4:=by
   intro st jump b e1 e2 e3 hl;obtain⟨f4,nt4,tm4,ps4,x4,y4,st4,ho4,g4⟩:=uf hl;obtain⟨r',q1,q2,q3,hw4,hc4⟩:=Aj hs3.1 ho4 (fun ι' hι=>(hs3.2 ι' hι).2) st;rw[hb3]at q1 hc4;rw[e1,e2]at hc4;refine⟨_,_,run_endRound jump q1,.bool b,by rw[e3],?_⟩;exact hG (.bool b) _ nx3 ι3 _ _ g4 hw4 (zam hle1 hle3) (ha1.trans ha3 hle1) fun ι' hι=>⟨hc4 ι' hι,by simp[ak]⟩
  cases e with
  |eJ=>exact fin .ready none true rfl rfl rfl hk3
  |ext i=>exact fin (.done (.ext i)) (some (.exit i)) false rfl rfl rfl hk3
  |ret=>exact fin (.done .ret) (some .ret) false rfl rfl rfl hk3
theorem FU {B:Nat->Prop}{w0 w:World}{hp:Tr AO}{nx:Pz}{ι:En}{id:Pz}{f nt:Nat}{tm:Tm}{ps:Array Tmp}{x y:Code}{st0:LS}(hw:Wf hp nx)(ho:hp.get id=some (.loop f nt tm ps x y st0))(hc:∀ι',al nx ι ι'->Core B w0 ι' hp w) :
  ∃r:Loop,w.heap[ι.aS id]?=some (.loop r)/\r.state=vi st0/\r.pending=oL st0/\Wf (hp.set id .gone) nx/\∀o ι',al nx ι ι'->Core B w0 ι' (hp.set id .gone) (w.putObj (ι.aS id) o):=by
 obtain⟨fnC,tmps,D,h1,h2,h3,h4⟩:=(hc ι (al.refl _ _)).obj _ _ ho;have hlt:ι.aS id<w.heap.size:=(Array.getElem?_eq_some_iff.1 h1).1;refine⟨_,h1,rfl,rfl,qk hw ho rfl (fun _ _ h=>by cases h) rfl (fun _ _ h=>by cases h),fun o ι' hι=>?_⟩;have c1:=hc ι' hι;have hbi:=(hι id (hw.lt _ _ ho)).1;have hbase:=c1.base _ _ ho trivial;rw[hbi]at hbase;have hoth:∀b,b≠ι'.aS id->(w.putObj (ι.aS id) o).heap[b]?=w.heap[b]?:=fun b hbne=>World.putObj_heap_other (fun e=>hbne (by rw[hbi];exact e));refine kX ho rfl (fun _ _ h=>by cases h) rfl (fun _ _ h=>by cases h) c1 (c1.below.trans ⟨rfl,rfl,rfl,by simp,fun b hb'=>hoth b (fun e=>hbase (by rw[<-hbi,<-e];exact hb'))⟩) (fun k hk=>by simp;exact c1.room k hk) hoth ?_;show ((w.putObj (ι.aS id) o).heap[ι'.aS id]?).isSome=true;rw[hbi,World.putObj_heap_same hlt];rfl
theorem FV (p:Pz):mq p=p.num:=by
 induction p with
 |h=>rfl
 |o p ih=>show 2*mq p=2*p.num;rw[ih]
 |i p ih=>show 2*mq p+1=2*p.num+1;rw[ih]
theorem xN (p:Pz):aX (p.num-1)=p:=by
 have:=Pz.nM p;apply Pz.Kp;have h:=lK (p.num-1+1) (p.num-1+1) (by omega) (by omega);unfold aX;rw[h];omega
theorem FW {g:Nat}(h:BV P g=true):∃fn,P.funcs[g]?=some fn/\fn.body.isNone=false/\(fn.name == "runtime.NumGoroutine")=false:=by
 unfold BV at h;cases hf:P.funcs[g]? with
 |none=>rw[hf]at h;cases h
 |some fn =>
  rw[hf]at h;simp only[za,zaj]at h;exact⟨fn,rfl,h.1,h.2⟩
theorem sg {f:Nat}{fn:Func}{args:Array Value}{w:World}{G:Value->World->Prop}(hf:P.funcs[f]?=some fn)(hb:fn.body.isNone=false)(hn:(fn.name == "runtime.NumGoroutine")=false)(h:dh P (callFunc f args) w G) :
  (callFunc f args).run P w=.ok (.enter f args) w/\Calls P f args w fun e w'=>∃cv,e=.returned cv/\G cv w':=by
 have hrun:(callFunc f args).run P w=.ok (.enter f args) w:=by
  simp only[callFunc,Sem.run_bind,run_program,Result.andThen_ok,hf,hn,hb,zag,if_false,Sem.run_pure]
 refine⟨hrun,?_⟩;rcases h with ⟨cv,w',h|⟨h,_⟩,_⟩|⟨f',args',w',h,hc⟩|⟨l,f',tmps,x,y,w',h,_⟩
 ·rw[hrun]at h;cases h
 ·rw[hrun]at h;cases h
 ·rw[hrun]at h;cases h;exact hc
 ·rw[hrun]at h;cases h
theorem Ak (tm:Tm)(l:List Pz)(t:Nat):(⟨tm.lo,tm.hi,l⟩:Tm).at t=tm.at t:=rfl
theorem Al (hcall:q8 P call):xF P call:=by
 intro fid nt g ps x y tm hp nx K h J9 hny B w0 w ι a hs Q hn;unfold oH at h;obtain⟨fv,h,hfv⟩:=aM h;cases fv with
 |func fn first captured =>
  cases fn with
  |func gf =>
   cases first with
   |cons v vs=>cases h
   |nil =>
    obtain⟨hbd,g1⟩:=aJ h;obtain⟨fn,q1,q2,q3⟩:=FW hbd;rw[cW]at g1;rw[cW]at g1;refine wpIn_rangeFunc fun fnC _=>?_;obtain⟨rec,hrec⟩:∃rec:Loop,rec={ state:=.ready,pending:=none,fn:=fnC,tmps:=a.tmps,params:=ps,assign:=x,body:=y,defers:=w.heap.size }:=⟨_,rfl⟩;obtain⟨w1,hw1⟩:∃w1,w1=w.alloc (.deferred (some [])):=⟨_,rfl⟩;obtain⟨w2,hw2⟩:∃w2,w2=w1.alloc (.loop rec):=⟨_,rfl⟩;have hsz1:w1.heap.size=w.heap.size+1:=by rw[hw1];simp
    obtain⟨ι2,hι2⟩:∃ι2,ι2=(ι.at nx w.heap.size 0 0).at nx.succ (w.heap.size+1) 0 0:=⟨_,rfl⟩
    have hnames:∀ι',al nx.succ.succ ι2 ι'->al nx ι ι'/\ι'.aS nx=w.heap.size/\ι'.aS nx.succ=w.heap.size+1:=fun ι' hι=>by
     rw[hι2]at hι;obtain⟨p1,p2,_,_⟩:=dw hι;obtain⟨p3,p4,_,_⟩:=dw p1;exact⟨p3,p4,p2⟩
    have hcore:∀ι',al nx.succ.succ ι2 ι'->Core B w0 ι' ((hp.set nx .fa).set nx.succ (.loop fid nt ⟨tm.lo,tm.hi,[]⟩ ps x y .ready)) w2:=fun ι' hι=>by
     obtain⟨n1,n2,n3⟩:=hnames ι' hι;obtain⟨t1,c1⟩:=hs.2 ι' n1
     have d1:Core B w0 ι' (hp.set nx .fa) w1:=by
      rw[hw1];refine pZ hs.1 c1 n2 rfl (fun _ _ h=>by cases h) ?_;show (w.alloc (.deferred (some []))).heap[ι'.aS nx]?=_;rw[n2];exact bO _ _
     rw[hw2];refine pZ (oN hs.1 rfl (fun _ _ h=>by cases h)) d1 (by rw[n3,hsz1]) rfl (fun _ _ h=>by cases h) ?_;refine⟨fnC,a.tmps,w.heap.size,?_,t1.size,rfl,fun t=>t1.val t⟩;rw[n3,<-hsz1,bO,hrec];rfl
    have hwf:Wf ((hp.set nx .fa).set nx.succ (.loop fid nt ⟨tm.lo,tm.hi,[]⟩ ps x y .ready)) nx.succ.succ:=oN (oN hs.1 rfl (fun _ _ h=>by cases h)) rfl (fun _ _ h=>by cases h)
    have hcapt:∀ι',al nx ι ι'->ao ι' captured=ao ι captured:=fun ι' hι=>by
     obtain⟨t1,_⟩:=hs.2 ι (al.refl _ _);obtain⟨t2,_⟩:=hs.2 ι' hι;have e1:=hfv ι nt a t1;have e2:=hfv ι' nt a t2;rw[e1]at e2;simp only[ak,Value.func.injEq,Array.mk.injEq,true_and]at e2;exact e2.2.symm.elim (fun p _=>p.symm)
    have hargs:∀ι',al nx.succ.succ ι2 ι'->(#[Value.func (.yield (w.heap.size+1)) #[] #[]]++(ao ι captured).toArray)=(ao ι' (.func (.yield (mq nx.succ)) [] []::captured)).toArray:=fun ι' hι=>by
     obtain⟨n1,n2,n3⟩:=hnames ι' hι;simp only[ao,ak,jV,FV,xN,n3,hcapt ι' n1];simp
    have hev:a.eval g=.func (.func gf) #[] (ao ι captured).toArray:=by
     obtain⟨t1,_⟩:=hs.2 ι (al.refl _ _);rw[hfv ι nt a t1];simp[ak,jV,ao]
    obtain⟨G,hG⟩:∃G:Value->World->Prop,G=fun _ w'=>∃v hp' nx' ι3,(hp'.gw nx.succ (.bad 284) fun o=>lD o fun _ _ _ _ _ _ st=>hp'.c9 nx.succ .gone fun hp =>
      LS.rec (motive:=fun _=>Rs) (K .eJ ⟨tm.lo,tm.hi,nx::tm.ml⟩ hp nx') (.bad 287) (fun e=>Ex.rec (motive:=fun _=>Rs) (.bad 287) (fun i=>K (.ext i) ⟨tm.lo,tm.hi,nx::tm.ml⟩ hp nx') (K .ret ⟨tm.lo,tm.hi,nx::tm.ml⟩ hp nx') e) st)=.ok /\
       Wf hp' nx'/\nx.succ.succ.num<=nx'.num/\al nx.succ.succ ι2 ι3/\(∀ι',al nx' ι3 ι'->Core B w0 ι' hp' w')/\v=(v:AV):=⟨_,rfl⟩
    obtain⟨hrun,hcalls⟩:=sg q1 q2 q3 (hcall.1 gf _ _ _ _ g1 B w0 w2 ι2 _ hwf (fun ι' hι=>⟨hcore ι' hι,hargs ι' hι⟩) G (fun v hp' nx' ι3 cv w' k1 k2 k3 k4 k5=>by
     rw[hG]
     exact⟨v,hp',nx',ι3,k1,k2,k3,k4,fun ι' hι=>(k5 ι' hι).1,rfl⟩))
    refine⟨w.heap.size+1,[{ target:=.collected w.heap.size,args:=#[] }],w2,{ target:=.fn (.func gf) (ao ι captured).toArray,args:=#[.func (.yield (w.heap.size+1)) #[] #[]] },w2,gf,#[Value.func (.yield (w.heap.size+1)) #[] #[]]++(ao ι captured).toArray,w2,?_,?_,fun _ _=>trivial,?_,qd,?_⟩
    ·have:=run_enterLoop_outer (P:=P) (w:=w) fnC a.tmps ps x y;rw[hw2,hw1,hrec];exact this
    ·simp only[resolve,rangeCall,hev,Deferred.ofValue,Sem.run_pure];simp[Act.eval]
    ·simp only[invoke];exact hrun
    ·refine CallsIn.mono (tO hcalls none _) fun e w3 he=>?_;obtain⟨cv,rfl,hg⟩:=he;rw[hG]at hg;obtain⟨v,hp',nx',ι3,k1,k2,k3,k4,k5,_⟩:=hg;obtain⟨o,ho,k1⟩:=dt k1;obtain⟨f4,nt4,tm4,ps4,x4,y4,st,rfl,k6⟩:=lU k1;rw[Tr.cz]at k6;obtain⟨r,r1,r2,r3,hwf3,hc3⟩:=FU k2 ho k5;obtain⟨n1,n2,n3⟩:=hnames ι3 k4;rw[n3]at r1 hc3;have hle:nx.num<=nx'.num:=by rw[Pz.cw,Pz.cw]at k3;omega
     have hsat:∀o,Sat B w0 nt ⟨tm.lo,tm.hi,nx::tm.ml⟩ (hp'.set nx.succ .gone) nx' ι3 { a with defers:=[{ target:=.collected w.heap.size,args:=#[] }]++a.defers } (w3.putObj (w.heap.size+1) o):=fun o=>by
      refine⟨hwf3,fun ι' hι=>⟨?_,hc3 o ι' hι⟩⟩;have hag:al nx.succ.succ ι2 ι':=k4.trans hι k3;obtain⟨m1,m2,m3⟩:=hnames ι' hag;obtain⟨t1,_⟩:=hs.2 ι' m1;refine⟨t1.size,?_,fun t=>t1.val t⟩;show [{ target:=.collected w.heap.size,args:=#[] }]++a.defers=marks ι' (nx::tm.ml);rw[t1.defers];simp only[marks,zal,m2,BZ];rfl
     cases st with
     |busy=>cases k6
     |ready =>
      refine⟨_,_,run_endLoop r1 (by rw[r2];simp[vi]),?_⟩;rw[r3];exact hn .eJ _ _ nx' ι3 _ _ k6 hle n1 (hsat _)
     |done e =>
      cases e with
      |eJ=>cases k6
      |ext i =>
       refine⟨_,_,run_endLoop r1 (by rw[r2];simp[vi]),?_⟩;rw[r3];exact wpIn_exit (hn (.ext i) _ _ nx' ι3 _ _ k6 hle n1 (hsat _))
      |ret =>
       refine⟨_,_,run_endLoop r1 (by rw[r2];simp[vi]),?_⟩;rw[r3];exact wpIn_ret (hn .ret _ _ nx' ι3 _ _ k6 hle n1 (hsat _))
  |_=>cases h
 |_=>cases h
end
end Go.aI
namespace Go.aI
open Go.RowKit
section
variable {P:Program}{o:Oper}{tm:Tm}{hp:Tr AO}{nx:Pz}{k:AV->Tr AO->Pz->Rs}{call:bP}
theorem aL {n:Nat}{p:Prop}(h:(dK n).run call tm hp nx k=.ok):p:=by cases h
theorem uh (hl:fK P o=true)(h:(zs P o).run call tm hp nx k=.ok):dF P o tm hp nx k:=by
 unfold fK at hl;unfold zs at h;cases cX:o.op with
 |move x=>rw[cX]at h;exact DH (.inl cX) h
 |assign x=>rw[cX]at h;exact DH (.inr cX) h
 |pick c x y=>rw[cX]at h;exact Kz cX h
 |build t ps =>
  rw[cX]at h;simp only at h;split at h
  ·rename_i hz hu;split at h
   ·rename_i hp';exact FD cX hz hu hp' h
   ·exact aL h
  ·rename_i hz hu;split at h
   ·rename_i hi;exact FE cX hz hu hi h
   ·exact aL h
  ·exact aL h
 |load t x =>
  rw[cX]at h;simp only at h;split at h
  ·rename_i hk ht;exact zQ cX ht h
  ·rename_i hk ht;exact zR cX hk ht h
  ·exact aL h
 |nilCheck x =>
  rw[cX]at h
  obtain⟨v,h,hv⟩:=aM (tm:=tm) (k:=fun v=>MU v (.bad 136) (fun p o=>k (.ptr p o) hp nx) fun f a b=>match f with
   |.func f=>k (.func (.func f) a b) hp nx
   |_=>.bad 136) h
  cases v with
  |ptr p q=>exact bL (fun B w0 ι nt a w ha hcc=>by simp only[execOp,cX];rw[hv ι nt a ha];simp[ak]) h
  |func fn u1 u2 =>
   cases fn with
   |func f=>exact bL (v:=.func (.func f) u1 u2) (fun B w0 ι nt a w ha hcc=>by simp only[execOp,cX];rw[hv ι nt a ha];simp[ak,jV]) h
   |_=>cases h
  |_=>cases h
 |binOp op t x y yt =>
  rw[cX]at h;simp only at h;split at h
  ·rename_i hg;exact Hx cX hg h
  ·exact aL h
 |unOp op t x=>rw[cX]at h;exact KD cX h
 |makeFunc fn a b =>
  rw[cX]at h;simp only at h;split at h
  ·rename_i hfn;exact zP hfn cX h
  ·exact aL h
 |fieldAddr t x f =>
  rw[cX]at h;simp only at h;split at h
  ·rename_i hf;split at h
   ·rename_i hz;exact xz cX hf hz h
   ·exact aL h
  ·exact aL h
 |field t x f =>
  rw[cX]at h;simp only at h;split at h
  ·rename_i hf;split at h
   ·exact aL h
   ·rename_i hk ht;obtain⟨v,h,hv⟩:=aM (tm:=tm) h;cases v with
    |agg cs =>
     obtain⟨h1,h⟩:=mX _ h;obtain⟨h2,h⟩:=mU _ h;exact zO cX hf hv (tR ht) h
    |_=>cases h
   ·rename_i hk ht;obtain⟨v,h,hv⟩:=aM (tm:=tm) h;cases v with
    |agg cs =>
     obtain⟨u,hu,h⟩:=nN _ h;exact zO cX hf hv (nk hk ht hu) h
    |_=>cases h
  ·exact aL h
 |indexAddr t x i =>
  rw[cX]at h;simp only at h;split at h
  ·rename_i hu;split at h
   ·rename_i hi;exact vl cX hu ⟨_,hi⟩ h
   ·exact aL h
  ·rename_i hu;split at h
   ·rename_i hi;exact zU cX hu ⟨_,hi⟩ h
   ·exact aL h
  ·exact aL h
 |index t x i =>
  rw[cX]at h;simp only at h;split at h
  ·rename_i hu;simp only[vO]at h;exact zV cX hu h
  ·exact aL h
 |lookup t m i ok =>
  rw[cX]at h;simp only[Dx]at h;split at h
  ·rename_i hu;split at h
   ·rename_i hz;exact FO cX hu hz h
   ·exact aL h
  ·exact aL h
 |makeInterface t x =>
  rw[cX]at h;simp only at h;split at h
  ·exact aL h
  ·rename_i d hni hu;exact xA cX hu (fun ms e=>hni ms e) h
  ·exact aL h
 |extract x i =>
  rw[cX]at h;simp only[Fx]at h;exact B0 cX h
 |convert s t x =>
  rw[cX]at h hl;simp only[Dv]at h hl;split at hl
  ·rename_i hs ht;rw[hs,ht]at h;exact B5 cX hs ht h
  ·rename_i hs ht;rw[hs,ht]at h;exact B6 cX hs ht h
  ·rename_i hs ht;rw[hs,ht]at h;simp only at h;split at h
   ·rename_i he;exact xK cX hs ht he h
   ·exact aL h
  ·cases hl
 |slice t x lo hi mx =>
  rw[cX]at h hl;cases mx with
  |some m=>cases hl
  |none =>
   simp only[BO]at h hl;split at hl
   ·rename_i hu;rw[hu]at h;simp only[vO]at h;exact z7 cX hu h
   ·cases hl
 |call c =>
  rw[cX]at h hl;simp only[Hh]at h hl;split at hl
  ·rename_i hc;rw[hc]at h;generalize hats:c.argTypes.toList=ats at h;generalize hx:c.args.toList=xs at h
   match ats,xs,hats,hx,h with
   |t::ts,[x],hats,hx,h=>exact Ov (ats:=#[]) cX hc hats hx h
   | [],_,_,_,h=>cases h
   |_::_,[],_,_,h=>cases h
   |_::_,_::_::_,_,_,h=>cases h
  ·rename_i hc;rw[hc]at h;generalize hats:c.argTypes.toList=ats at h;generalize hx:c.args.toList=xs at h
   match ats,xs,hats,hx,h with
   |_,[x,y],hats,hx,h=>exact HG (mx:=false) cX hc hx h
   | [],[],_,_,h=>cases h
   |_::_,[],_,_,h=>cases h
   | [],[_],_,_,h=>cases h
   |_::_,[_],_,_,h=>cases h
   | [],_::_::_::_,_,_,h=>cases h
   |_::_,_::_::_::_,_,_,h=>cases h
  ·rename_i hc;rw[hc]at h;generalize hats:c.argTypes.toList=ats at h;generalize hx:c.args.toList=xs at h
   match ats,xs,hats,hx,h with
   |_,[x,y],hats,hx,h=>exact HG (mx:=true) cX hc hx h
   | [],[],_,_,h=>cases h
   |_::_,[],_,_,h=>cases h
   | [],[_],_,_,h=>cases h
   |_::_,[_],_,_,h=>cases h
   | [],_::_::_::_,_,_,h=>cases h
   |_::_,_::_::_::_,_,_,h=>cases h
  ·cases hl
 |_=>rw[cX]at hl;cases hl
theorem HJ (hl:vh P o=true)(h:(zs P o).run call tm hp nx k=.ok):sa P o tm hp nx k:=by
 unfold vh at hl;unfold zs at h;cases cX:o.op with
 |alloc e =>
  rw[cX]at h;simp only at h;split at h
  ·rename_i hz;exact Hz cX hz h
  ·exact aL h
 |box e x=>rw[cX]at h;exact Ou cX h
 |buildSlice t len ps =>
  rw[cX]at h;simp only at h;split at h
  ·rename_i hu;split at h
   ·rename_i hz;split at h
    ·rename_i hg;exact vn cX hu hz hg h
    ·exact aL h
   ·exact aL h
  ·exact aL h
 |makeMap t r =>
  rw[cX]at h;cases r with
  |some r=>exact aL h
  |none=>exact B1 cX (fun ι nt a w ha=>rfl) h
 |_=>rw[cX]at hl;cases hl
def IsPure (b:OB):Prop:=(∃f,b=dV f)∨∃n,b=dK n
theorem HK (hl:gV P o=true):IsPure (zs P o):=by
 unfold gV at hl;unfold zs;cases cX:o.op<;>rw[cX]at hl<;>simp only[Dv]at hl ⊢
 all_goals first|(cases hl;done)|skip
 all_goals repeat' (first|exact .inl ⟨_,rfl⟩|exact .inr ⟨_,rfl⟩|split)
 all_goals simp_all
theorem Am (hl:gV P o=true):fK P o=true:=by
 unfold gV at hl;unfold fK;cases cX:o.op<;>rw[cX]at hl<;>simp only at hl ⊢
 all_goals first|(cases hl;done)|skip
 all_goals (split at hl<;>simp_all)
theorem KN (hl:gV P o=true)(h:(zs P o).run call tm hp nx k=.ok):∃v,k v hp nx=.ok/\gI P o tm .e v:=by
 have he:(zs P o).run call tm .e nx (fun v _ _=>k v hp nx)=.ok:=by
  rcases HK hl with ⟨f,hf⟩|⟨n,hf⟩
  ·rw[hf]at h ⊢;exact h
  ·rw[hf]at h;exact aL h
 exact uh (Am hl) he
theorem Oy (hcall:q8 P call):ot P call:=by
 intro o tm hp nx k h;cases hl:fK P o with
 |true=>exact (uh hl h).to
 |false =>
  cases hn:vh P o with
  |true=>exact (HJ hn h).to
  |false =>
   unfold zs at h;cases cX:o.op with
   |store t a x =>
    rw[cX]at h;simp only at h;split at h
    ·rename_i hi;exact Hy cX h ⟨_,hi⟩
    ·exact aL h
   |makeSlice t l c =>
    rw[cX]at h;simp only at h;split at h
    ·rename_i hu;split at h
     ·rename_i hz;split at h
      ·rename_i hg;exact (xB cX hu hz hg h).to
      ·exact aL h
     ·exact aL h
    ·exact aL h
   |mapUpdate t m i x =>
    rw[cX]at h;simp only[xh]at h;split at h
    ·rename_i hu;exact wc (.inl cX) hu h
    ·exact aL h
   |insert t m i x =>
    rw[cX]at h;simp only[xh]at h;split at h
    ·rename_i hu;exact wc (.inr cX) hu h
    ·exact aL h
   |mapEntry t m i =>
    rw[cX]at h;simp only[Hf]at h;split at h
    ·rename_i hu;split at h
     ·rename_i hz;exact HF cX hu hz h
     ·exact aL h
    ·exact aL h
   |entryStore t m s x=>rw[cX]at h;exact vp cX h
   |range t x=>rw[cX]at h;exact FT cX h
   |next it isS =>
    rw[cX]at h;cases isS with
    |true=>exact aL h
    |false=>exact HH cX h
   |entry it=>rw[cX]at h;exact Ai cX h
   |convert s t x =>
    rw[cX]at h;simp only[Dv]at h;simp only[fK,cX]at hl;split at h
    ·rename_i hs ht;rw[hs,ht]at hl;cases hl
    ·rename_i hs ht;rw[hs,ht]at hl;cases hl
    ·rename_i hs ht;split at h
     ·rename_i he;exact ua cX hs ht he h
     ·exact aL h
    ·rename_i hs ht;split at h
     ·rename_i he;exact Af cX hs ht he h
     ·exact aL h
    ·rename_i hs ht;rw[hs,ht]at hl;cases hl
    ·exact aL h
   |slice t x lo hi mx =>
    rw[cX]at h;simp only[BO]at h;split at h
    ·rename_i hu;cases mx with
     |none=>simp only[fK,cX,hu]at hl;cases hl
     |some m=>exact aL h
    ·rename_i el hu;split at h
     ·exact aL h
     ·exact aL h
     ·rename_i hi' hmx;have hmx:mx=none:=by cases mx with|none=>rfl|some m=>cases hmx
      subst hmx;obtain⟨v,h,hv⟩:=aM (tm:=tm) h;cases v with
      |slice id off len cap=>exact (B3 cX hu ⟨_,hi'⟩ hv h).to
      |bt id off len skip=>exact B4 cX hu ⟨_,hi'⟩ hv h
      |ab=>exact (z8 cX hu ⟨_,hi'⟩ hv h).to
      |_=>cases h
    ·exact aL h
   |call c =>
    rw[cX]at h;simp only[Hh]at h;simp only[fK,cX]at hl;split at h
    ·rename_i b hc;rw[hc]at hl;generalize hats:c.argTypes.toList=ats at h;generalize hx:c.args.toList=xs at h;unfold zp at h;split at h
     ·cases hl
     ·rename_i ts tx s x;split at h
      ·exact aL h
      ·rename_i e d hni hts htx;split at h
       ·rename_i z hz;split at h
        ·rename_i hg;exact xE cX hc hats hx hts htx (fun kd e=>hni kd e) hz hg (fun v id off len skip ls h1 h2 h3 h4 h5=>zZ cX hc hats hx hts htx (fun kd e=>hni kd e) hz hg v id off len skip ls h1 h2 h3 h4 h5) h
        ·exact aL h
       ·exact aL h
      ·exact aL h
     ·cases hl
     ·cases hl
     ·rename_i t ts m i;simp only[Dz]at h;split at h
      ·rename_i hu;exact FQ cX hc hats hx hu h
      ·exact aL h
     ·exact aL h
    ·rename_i f hc;exact KJ hcall (HI hcall.2) cX hc h
    ·exact aL h
   |alloc=>simp only[vh,cX]at hn;cases hn
   |box=>simp only[vh,cX]at hn;cases hn
   |buildSlice=>simp only[vh,cX]at hn;cases hn
   |makeMap=>simp only[vh,cX]at hn;cases hn
   |_=>first|(simp only[fK,cX]at hl;cases hl;done)|(rw[cX]at h;exact aL h)
end
end Go.aI
namespace Go.aI
open Go.RowKit
def tv (a:Act)(t:Nat):Value:=a.tmps.getD t undef
theorem iY {a:Act}{d:Nat}(hd:d<a.tmps.size)(v:Value)(t:Nat):tv (a.put (some d) v) t=if t=d then v else tv a t:=ql _ _ _ _ _ hd
theorem si (a:Act)(v:Value)(t:Nat):tv (a.put none v) t=tv a t:=rfl
theorem jI (a:Act)(d:Option Tmp)(v:Value):(a.put d v).tmps.size=a.tmps.size:=by cases d<;>simp[Act.put]
theorem put_defers (a:Act)(d:Option Tmp)(v:Value):(a.put d v).defers=a.defers:=by cases d<;>rfl
section
variable {P:Program}{ops:Array Oper}
theorem gQ {o:Oper}(hs:jF o=true){a a':Act}(h:∀t∈o.looksAt ops,tv a t=tv a' t):execOp a.eval o=execOp a'.eval o:=by
 refine execOp_congr o (fun cs b e=>by unfold jF at hs;rw[e]at hs;cases hs) (fun x hx=>?_);cases x with
 |tmp t=>exact h t (zbo _ (List.mem_filterMap.2 ⟨.tmp t,by simpa using hx,rfl⟩))
 |_=>rfl
theorem xO {a a':Act}{j:Nat}(h:∀t,(ops[j]?).bind (·.dst)=some t->tv a t=tv a' t):yielded ops a.tmps j=yielded ops a'.tmps j:=by
 unfold yielded;cases ho:(ops[j]?).bind (·.dst)with
 |none=>rfl
 |some t =>
  have e:=h t ho;unfold tv at e;rw[zah,zah]at e;simp only[zcb];cases h1:a.tmps[t]? with
  |none =>
   cases h2:a'.tmps[t]? with
   |none=>rfl
   |some v=>rw[h1,h2]at e;simp only[Option.getD_none,zca]at e;rw[<-e];rfl
  |some v =>
   cases h2:a'.tmps[t]? with
   |none=>rw[h1,h2]at e;simp only[Option.getD_none,zca]at e;rw[e];rfl
   |some u=>rw[h1,h2]at e;simp only[zca]at e;rw[e]
theorem nz {o:Oper}{a a':Act}(h:∀t∈o.looksAt ops,tv a t=tv a' t):Region.wanted o (yielded ops a.tmps)=Region.wanted o (yielded ops a'.tmps):=by
 unfold Region.wanted;cases hg:o.guard with
 |none=>rfl
 |some g =>
  obtain⟨j,want⟩:=g;simp only;rw[xO (a:=a) (a':=a') fun t ht=>h t (zbt _ (by rw[hg];simp[ht]))]
def Yv (P:Program)(ops:Array Oper)(o:Oper)(a:Act)(w:World)(cv:Value):Prop :=
 (Region.wanted o (yielded ops a.tmps)=true/\(execOp a.eval o).run P w=.ok (.value cv) w)∨(Region.wanted o (yielded ops a.tmps)=false/\cv=undef)
theorem Yv.same {o:Oper}{a a':Act}{w:World}{cv:Value}(hs:jF o=true)(h:∀t∈o.looksAt ops,tv a t=tv a' t)(hy:Yv P ops o a w cv):Yv P ops o a' w cv:=by
 unfold Yv;rw[<-gQ hs h,<-nz h];exact hy
theorem Yv.Oz {o:Oper}{a:Act}{w:World}{x y:Value}(h:Yv P ops o a w x)(h':Yv P ops o a w y):x=y:=by
 rcases h with ⟨h1,h2⟩|⟨h1,rfl⟩<;>rcases h' with ⟨h3,h4⟩|⟨h3,rfl⟩
 ·rw[h2]at h4;simpa using h4
 ·rw[h1]at h3;cases h3
 ·rw[h1]at h3;cases h3
 ·rfl
theorem Yv.wp {r:Option Nat}{o:Oper}{i:Nat}{a:Act}{w:World}{cv:Value}{Q:Exit->Act->World->Prop}{K:Act->World->Prop}(hi:ops[i]?=some o)(hy:Yv P ops o a w cv)(h:K (a.put o.dst cv) w):wpOpIn (fw r) 0 P ops Q i K a w:=by
 unfold wpOpIn;rw[hi];simp only;rcases hy with ⟨h1,h2⟩|⟨h1,rfl⟩
 ·rw[if_pos h1];exact dh.wp (G:=fun cv' w'=>cv'=cv/\w'=w) (.inl ⟨cv,w,.inl h2,rfl,rfl⟩) fun cv' w' ⟨e1,e2⟩=>by rw[e1,e2];exact h
 ·rw[if_neg (by rw[h1];decide)];exact⟨fun _ _=>trivial,h⟩
def LV (P:Program)(ops:Array Oper)(nt:Nat)(o:Oper)(tm:Tm)(hp:Tr AO)(v:AV):Prop :=
 ∀B w0 ι a w,bW ι nt tm a->Core B w0 ι hp w->Yv P ops o a w (ak ι v)
theorem HL (ι:En)(w:World):Core (fun _=>False) w ι .e w :=
 have no:∀{id:Pz} {o:AO} {p:Prop},(Tr.e:Tr AO).get id=some o->p:=fun h=>by rw[Tr.fD]at h;cases h
 ⟨Kept.refl _ _,fun _ h=>h.elim,fun _ _ h=>no h,fun _ _ h=>no h,fun _ _ _ _ _ h=>no h,fun _ _ _ _ _ _ _ _ _ _ _ _ _ _ _ _ h=>no h⟩
noncomputable def kK (d:Option Tmp)(tm:Tm)(v:AV):Tm:=match d with|none=>tm|some d=>tm.put d v
variable {call:bP}{nt:Nat}{tm:Tm}{hp:Tr AO}{nx:Pz}{K:Tm->Tr AO->Pz->Rs}{o:Oper}
theorem te {d:Option Tmp}{b:OB}(h:(lJ nt d b).run call tm hp nx K=.ok):(∀t,d=some t->t<nt)/\b.run call tm hp nx (fun v hp nx=>K (kK d tm v) hp nx)=.ok:=by
 unfold lJ at h;cases d with
 |none=>exact⟨fun t e=>(by cases e),h⟩
 |some t =>
  simp only at h;cases hlt:Nat.blt t nt with
  |false=>rw[hlt]at h;cases h
  |true =>
   rw[hlt]at h;refine⟨fun u e=>by cases e;exact av hlt,?_⟩
   have e:(fun v hp nx=>(tC t).run tm v fun tm=>K tm hp nx)=fun v hp nx=>K (kK (some t) tm v) hp nx:=by
    funext v hp nx
    rw[lM];rfl
   rw[<-e];exact h
theorem oQ (h:(fb P nt ops o).run call tm hp nx K=.ok):(∀t,o.dst=some t->t<nt) /\
  (((∀ι a,bW ι nt tm a->Region.wanted o (yielded ops a.tmps)=true)/\(zs P o).run call tm hp nx (fun v hp nx=>K (kK o.dst tm v) hp nx)=.ok)∨
   ((∀ι a,bW ι nt tm a->Region.wanted o (yielded ops a.tmps)=false)/\K (kK o.dst tm aE) hp nx=.ok)):=by
 unfold fb at h;cases hg:o.guard with
 |none =>
  rw[hg]at h;obtain⟨h1,h2⟩:=te h;exact⟨h1,.inl ⟨fun ι a _=>by simp[Region.wanted,hg],h2⟩⟩
 |some g =>
  obtain⟨j,want⟩:=g;rw[hg]at h;simp only at h;cases hd:mQ ops nt j with
  |none=>rw[hd]at h;cases h
  |some d =>
   rw[hd]at h
   have h:(pK d).run tm (fun v=>G8 v ((lJ nt o.dst (dV fun _ k=>k aE)).run call tm hp nx K) fun b =>
    bV (oG b want) ((lJ nt o.dst (zs P o)).run call tm hp nx K) ((lJ nt o.dst (dV fun _ k=>k aE)).run call tm hp nx K))=.ok:=h
   rw[lL]at h;have hy:∀ι a,bW ι nt tm a->yielded ops a.tmps j=match tm.at d with|.bool b=>some b|_=>none:=fun ι a ha=>iz hd ha
   have no:(∀ι a,bW ι nt tm a->yielded ops a.tmps j≠some want)->(lJ nt o.dst (dV fun _ k=>k aE)).run call tm hp nx K=.ok->(∀t,o.dst=some t->t<nt)/\(((∀ι a,bW ι nt tm a->Region.wanted o (yielded ops a.tmps)=true)/\(zs P o).run call tm hp nx (fun v hp nx=>K (kK o.dst tm v) hp nx)=.ok)∨
     ((∀ι a,bW ι nt tm a->Region.wanted o (yielded ops a.tmps)=false)/\K (kK o.dst tm aE) hp nx=.ok)):=by
    intro hne hp';obtain⟨h1,h2⟩:=te hp';exact⟨h1,.inr ⟨fun ι a ha=>by simp[Region.wanted,hg];exact hne ι a ha,h2⟩⟩
   cases hv:tm.at d with
   |bool b =>
    rw[hv]at h;rcases bQ h with ⟨hb,h⟩|⟨hb,h⟩
    ·have hb:b=want:=by rw[nS]at hb;simpa using hb
     obtain⟨h1,h2⟩:=te h;exact⟨h1,.inl ⟨fun ι a ha=>by simp[Region.wanted,hg,hy ι a ha,hv,hb],h2⟩⟩
    ·have hb:b≠want:=by rw[nS]at hb;simpa using hb
     exact no (fun ι a ha=>by rw[hy ι a ha,hv];simp[hb]) h
   |_=>rw[hv]at h;exact no (fun ι a ha=>by rw[hy ι a ha,hv];simp) h
theorem oR (hl:fK P o=true)(h:(fb P nt ops o).run call tm hp nx K=.ok):(∀t,o.dst=some t->t<nt)/\∃v,K (kK o.dst tm v) hp nx=.ok/\LV P ops nt o tm hp v:=by
 obtain⟨h1,⟨h2,h3⟩|⟨h2,h3⟩⟩:=oQ h
 ·obtain⟨v,hk,hv⟩:=uh hl h3;exact⟨h1,v,hk,fun B w0 ι a w ha hc=>.inl ⟨h2 ι a ha,hv B w0 ι nt a w ha hc⟩⟩
 ·exact⟨h1,aE,h3,fun B w0 ι a w ha hc=>.inr ⟨h2 ι a ha,du ι⟩⟩
theorem wi (hl:gV P o=true)(h:(fb P nt ops o).run call tm hp nx K=.ok):(∀t,o.dst=some t->t<nt)/\∃v,K (kK o.dst tm v) hp nx=.ok/\LV P ops nt o tm .e v:=by
 obtain⟨h1,⟨h2,h3⟩|⟨h2,h3⟩⟩:=oQ h
 ·obtain⟨v,hk,hv⟩:=KN hl h3;exact⟨h1,v,hk,fun B w0 ι a w ha hc=>.inl ⟨h2 ι a ha,hv B w0 ι nt a w ha hc⟩⟩
 ·exact⟨h1,aE,h3,fun B w0 ι a w ha hc=>.inr ⟨h2 ι a ha,du ι⟩⟩
theorem Ao (hn:vh P o=true)(hg:o.guard=none)(h:(fb P nt ops o).run call tm hp nx K=.ok):(∀t,o.dst=some t->t<nt)/\∃v x,K (kK o.dst tm v) (hp.set nx x) nx.succ=.ok/\M3 P o tm nx v x:=by
 unfold fb at h;rw[hg]at h;obtain⟨h1,h2⟩:=te h;obtain⟨v,x,hk,hx⟩:=HJ hn h2;exact⟨h1,v,x,hk,hx⟩
theorem Ca (hops:ot P call)(h:(fb P nt ops o).run call tm hp nx K=.ok){B:Nat->Prop}{w0 w:World}{ι:En}{a:Act}(hs:Sat B w0 nt tm hp nx ι a w){G:Value->World->Prop}
  (hG:∀cv w' v hp' nx' ι2,K (kK o.dst tm v) hp' nx'=.ok->nx.num<=nx'.num->al nx ι ι2->Wf hp' nx'->(∀ι',al nx' ι2 ι'->Core B w0 ι' hp' w'/\cv=ak ι' v)->G cv w') :
  (∀t,o.dst=some t->t<nt)/\((Region.wanted o (yielded ops a.tmps)=true/\dh P (execOp a.eval o) w G)∨(Region.wanted o (yielded ops a.tmps)=false/\G undef w)):=by
 obtain⟨h1,⟨h2,h3⟩|⟨h2,h3⟩⟩:=oQ h
 ·refine⟨h1,.inl ⟨h2 ι a (hs.2 ι (al.refl _ _)).1,hops o tm hp nx _ h3 B w0 nt a w ι hs G ?_⟩⟩;intro v hp' nx' ι2 cv w' hk hw hle ha hc;exact hG cv w' v hp' nx' ι2 hk hle ha hw hc
 ·exact⟨h1,.inr ⟨h2 ι a (hs.2 ι (al.refl _ _)).1,hG undef w aE hp nx ι h3 (zad _) (al.refl _ _) hs.1 (fun ι' hι=>⟨(hs.2 ι' hι).2,(du ι').symm⟩)⟩⟩
theorem LV.set {v u:AV}{d:Nat}(hs:jF o=true)(hd:d<nt)(hn:d∉o.looksAt ops)(h:LV P ops nt o tm hp v):LV P ops nt o (tm.put d u) hp v:=by
 intro B w0 ι a w ha hc;have hsz:d<a.tmps.size:=by rw[ha.size];exact hd
 have h0:bW ι nt tm (a.put (some d) (ak ι (tm.at d))):=by
  refine⟨by rw[jI];exact ha.size,by rw[put_defers,ha.defers,Tm.oJ],fun t=>?_⟩;have:=iY hsz (ak ι (tm.at d)) t;unfold tv at this;rw[this];by_cases ht:t=d
  ·subst ht;rw[if_pos rfl]
  ·rw[if_neg ht,ha.val t,Tm.fT ht]
 refine (h B w0 ι _ w h0 hc).same hs (fun t ht=>?_);rw[iY hsz,if_neg (by intro e;subst e;exact hn ht)]
theorem LV.kK {v v':AV}{d:Option Tmp}(hs:jF o=true)(hd:∀t,d=some t->t<nt)(hn:∀t,d=some t->t∉o.looksAt ops)(h:LV P ops nt o tm hp v):LV P ops nt o (aI.kK d tm v') hp v:=by
 cases d with
 |none=>exact h
 |some t=>exact h.set hs (hd t rfl) (hn t rfl)
theorem gC:∀(p q:Pz),qT p q=true->p=q:=by
 intro p
 induction p with
 |h=>intro q h;cases q<;>first|rfl|cases h
 |o p ih=>intro q h;cases q<;>first|(cases h;done)|(rw[ih _ h])
 |i p ih=>intro q h;cases q<;>first|(cases h;done)|(rw[ih _ h])
theorem HM {a b:AV}(h:To a b=true):a=b:=by
 unfold To at h;split at h
 all_goals first|(cases h;done)|rfl|skip
 ·simp only[beq_iff_eq]at h;rw[h]
 ·simp only[za,decide_eq_true_eq,beq_iff_eq]at h;rw[h.1,h.2]
 ·simp only[za]at h;rw[ai h.1,ai h.2]
 ·simp only[za,decide_eq_true_eq]at h;rw[h.1,ai h.2]
 ·simp only[za]at h;rw[gC _ _ h.1,ai h.2]
 ·simp only[za]at h;rw[gC _ _ h.1,ai h.2.1,ai h.2.2.1,ai h.2.2.2]
 ·simp only[za]at h;rw[gC _ _ h.1,ai h.2.1,ai h.2.2.1,ai h.2.2.2]
 ·rw[gC _ _ h]
theorem Cb {f:AV->AV->Bool}(hf:∀a b,f a b=true->a=b):∀(x y:List AV),Tp f x y=true->x=y
 | [],[],_=>rfl
 | [],_::_,h=>by cases h
 |_::_,[],h=>by cases h
 |a::x,b::y,h=>by
  have h:Bool.rec (motive:=fun _=>Bool) false (Tp f x y) (f a b)=true:=h;cases hb:f a b with
  |false=>rw[hb]at h;cases h
  |true=>rw[hb]at h;rw[hf _ _ hb,Cb hf x y h]
theorem HN {a b:AV}(h:Oi a b=true):a=b:=by
 unfold Oi at h;split at h
 ·rw[Cb (fun _ _=>HM) _ _ h]
 ·exact HM h
theorem OA {a b:AV}(h:Tq a b=true):a=b:=by
 unfold Tq at h;split at h
 ·rw[Cb (fun _ _=>HN) _ _ h]
 ·exact HN h
def qp (P:Program)(ops:Array Oper)(nt:Nat)(tm:Tm)(hp:Tr AO)(o:Oper):Prop:=∃v,(∀d,o.dst=some d->tm.at d=v/\d<nt)/\LV P ops nt o tm hp v
theorem ui (hl:fK P o=true)(h:(BR P nt ops o).run call tm hp nx K=.ok):K tm hp nx=.ok/\qp P ops nt tm hp o:=by
 unfold BR at h;cases hd:o.dst with
 |none =>
  rw[hd]at h;obtain⟨h1,v,h2,h3⟩:=oR hl h;exact⟨h2,v,fun d e=>(by rw[hd]at e;cases e),h3⟩
 |some d =>
  rw[hd]at h;obtain⟨h1,v,h2,h3⟩:=oR hl h;rw[hd]at h2;have h2:(pK d).run (tm.put d v) (fun v=>(pK d).run tm fun u=>bV (Tq v u) (K tm hp nx) (.bad 213))=.ok:=h2;rw[lL,lL,Tm.ec]at h2;obtain⟨he,g3⟩:=aJ h2;have:=OA he;exact⟨g3,v,fun d' e=>(by rw[hd]at e;cases e;exact⟨this.symm,h1 d hd⟩),h3⟩
theorem j5:∀(l:List Oper),(∀o∈l,fK P o=true)->(jE P nt ops l).run call tm hp nx K=.ok->K tm hp nx=.ok/\∀o∈l,qp P ops nt tm hp o
 | [],_,h=>⟨h,fun o ho=>by simp at ho⟩
 |o::l,hl,h=>by
  obtain⟨h1,h2⟩:=ui (hl o (zac ..)) (K:=fun tm hp nx=>(jE P nt ops l).run call tm hp nx K) h;obtain⟨h3,h4⟩:=j5 l (fun o ho=>hl o (zaa _ ho)) h1;refine⟨h3,fun o' ho=>?_⟩;rcases List.mem_cons.1 ho with rfl|ho
  ·exact h2
  ·exact h4 o' ho
end
theorem Ap (R:Nat->Nat->Prop)(l:List Oper):∀(acc:Array Nat),(∀j i,bit acc j i=true->R j i) ->
  (∀o j,l[j]?=some o->∀e∈o.after,Region.binds .any e=true->R (acc.size+j) e.on/\∀i,R e.on i->R (acc.size+j) i) ->
  ∀j i,bit (l.foldl (fun acc o=>acc.push (o.after.foldl (fun s e=>if Region.binds .any e then s||| 2 ^ e.on||| acc.getD e.on 0 else s) 0)) acc) j i=true->R j i:=by
 induction l with
 |nil=>intro acc h _ j i hb;exact h j i hb
 |cons o l ih =>
  intro acc h hl j i hb;refine ih _ (fun j i hb=>?_) (fun o' j' ho' e he hbi=>?_) j i hb
  ·unfold bit at hb;rw[zah,zdt]at hb;by_cases hj:j=acc.size
   ·rw[if_pos hj,zca]at hb
    have hfold:∀(m:List Edge) (s:Nat),(∀i,s.testBit i=true->R acc.size i)->(∀e∈m,e∈o.after.toList)->∀i,(m.foldl (fun s e=>if Region.binds .any e then s||| 2 ^ e.on||| acc.getD e.on 0 else s) s).testBit i=true->R acc.size i:=by
     intro m
     induction m with
     |nil=>intro s hs _ i hi;exact hs i hi
     |cons e m ihm =>
      intro s hs hm i hi;refine ihm _ (fun i hi=>?_) (fun e he=>hm e (zaa _ he)) i hi;simp only at hi;by_cases hbe:Region.binds .any e=true
      ·rw[if_pos hbe,Nat.testBit_or,Nat.testBit_or,zar,zar]at hi;obtain⟨q1,q2⟩:=hl o 0 rfl e (by simpa using hm e (zac ..)) hbe;rw[zbu]at q1 q2;rcases hi with (hi|hi)|hi
       ·exact hs i hi
       ·rw[Nat.testBit_two_pow]at hi;have:e.on=i:=by simpa using hi
        rw[<-this];exact q1
       ·exact q2 i (h _ _ hi)
      ·rw[if_neg hbe]at hi;exact hs i hi
    rw[hj];rw[<-zdd]at hb;exact hfold o.after.toList 0 (fun i hi=>by simp at hi) (fun e he=>he) i hb
   ·rw[if_neg hj]at hb;refine h j i ?_;unfold bit;rw[zah];exact hb
  ·have:=hl o' (j'+1) (by simpa using ho') e he hbi;rw[Array.size_push,show acc.size+1+j'=acc.size+(j'+1) by omega];exact this
theorem Aq {ops:Array Oper}(R:Nat->Nat->Prop)(h:∀o j,ops[j]?=some o->∀e∈o.after,Region.binds .any e=true->R j e.on/\∀i,R e.on i->R j i):∀j i,bit (Region.before ops) j i=true->R j i:=by
 intro j i hb;unfold Region.before at hb;rw[<-zdd]at hb;refine Ap R ops.toList #[] (fun j i hb=>by simp[bit]at hb) (fun o j ho e he hbi=>?_) j i hb;have:=h o j (by simpa using ho) e he hbi;simpa using this
theorem gR {ops:Array Oper}(L:Nat->Prop)(hL:∀i o,ops[i]?=some o->L i->∀e∈o.after,Region.binds .any e=true->L e.on):∀j i,L j->bit (Region.before ops) j i=true->L i:=by
 intro j i hj hb;exact Aq (fun j i=>L j->L i) (fun o j ho e he hbi=>⟨fun h=>hL j o ho h e he hbi,fun i hi h=>hi (hL j o ho h e he hbi)⟩) j i hb hj
theorem re {ops:Array Oper}(hlt:∀i o,ops[i]?=some o->∀e∈o.after,Region.binds .any e=true->e.on<i):∀j i,bit (Region.before ops) j i=true->i<j:=by
 intro j i hb;exact Aq (fun j i=>i<j) (fun o j ho e he hbi=>⟨hlt j o ho e he hbi,fun i hi=>Nat.lt_trans hi (hlt j o ho e he hbi)⟩) j i hb
end Go.aI
namespace Go.aI
open Go.RowKit
structure Rg (P:Program) (ops:Array Oper) (E F H:List Nat):Prop where
 DM:∀i,i<ops.size->(i∈E/\i∉F/\i∉H)∨(i∉E/\i∈F/\i∉H)∨(i∉E/\i∉F/\i∈H)
 QZ:∀i∈E,i<ops.size
 M4:∀i∈F,i<ops.size
 Vh:∀i∈H,i<ops.size
 xP:∀i o,ops[i]?=some o->∀e∈o.after,Region.binds .any e=true->e.on<i
 kE:∀i∈E,fK P (af ops i)=true
 kF:∀i∈F,DC P (af ops i)=true
 GV:∀i,i<ops.size->jF (af ops i)=true
 KO:∀i,i<ops.size->∀j,j∈E∨j∈F->(lk ops i j=true->bit (Region.before ops) i j=true)/\(i≠j->∀d,(af ops j).dst=some d->(af ops i).dst≠some d)
theorem j6 {ops:Array Oper}{i:Nat}(h:i<ops.size):ops[i]?=some (af ops i):=by
 unfold af;rw[zah,zbe h];rfl
theorem sk {ops:Array Oper}{i j d:Nat}(hd:(af ops j).dst=some d)(h:d∈(af ops i).looksAt ops):lk ops i j=true:=by
 unfold lk;rw[hd];simpa using h
theorem wj {P:Program}{o:Oper}(h:DC P o=true)(hp:gV P o=false):vh P o=true/\o.guard=none/\∃d,o.dst=some d:=by
 unfold DC at h;rw[hp]at h;simp only[zcp,za]at h;exact⟨h.1.1,by simpa using h.1.2,Option.isSome_iff_exists.1 h.2⟩
def vq (P:Program)(ops:Array Oper)(B S:Nat->Prop)(β:Nat)(a:Act)(w:World)(o:Oper):Prop :=
 (gV P o=true/\∃cv,(∀w1,Yv P ops o a w1 cv)/\∀d,o.dst=some d->tv a d=cv)∨
 (gV P o=false/\∃y d,S β/\¬B β/\w.heap[β]?=some y/\o.dst=some d/\∀w1:World,w1.heap.size=β->(execOp a.eval o).run P w1=.ok (.value (tv a d)) (w1.alloc y))
structure Sync (P:Program) (ops:Array Oper) (nt:Nat) (E F H CE CF CH:List Nat) (L:Nat->Prop) (B S:Nat->Prop) (w0:World) (tm:Tm) (hp:Tr AO) (nx:Pz) (ι:En) (β:Nat->Nat) (c a:Act) (w:World):Prop where
 down:∀i o,ops[i]?=some o->L i->∀e∈o.after,Region.binds .any e=true->L e.on
 Q0:∀i,L i->i<ops.size
 hv:∀i∈H,(L i ↔ i∈CH)
 fl:∀i∈CF,L i
 el:∀i∈E,L i->i∈CE
 kept:Kept B w0 w
 sub:∀k,B k->S k
 sat:Sat S w nt tm hp nx ι c w
 qs:∀f∈F,L f->f∉CF->vq P ops B S (β f) a w (af ops f)
 inj:∀f∈F,∀g∈F,L f->L g->f∉CF->g∉CF->gV P (af ops f)=false->gV P (af ops g)=false->β f=β g->f=g
 size:a.tmps.size=nt
 defers:a.defers=c.defers
 link:∀t,(∀i,i∈E∨i∈F->(af ops i).dst=some t->(L i ↔ (i∈CE∨i∈CF)))->tv a t=tv c t
section
variable {P:Program}{ops:Array Oper}{nt:Nat}{E F H:List Nat}{call:bP}{L:Nat->Prop}{B S:Nat->Prop}{w0 w:World}{tm:Tm}{hp:Tr AO}{nx:Pz}{ι:En}{β:Nat->Nat}{c a:Act}
theorem Rg.he (hr:Rg P ops E F H){i:Nat}(h:i∈H):i∉E/\i∉F:=by
 rcases hr.DM i (hr.Vh i h)with h'|h'|h'
 ·exact absurd h h'.2.2
 ·exact absurd h h'.2.2
 ·exact⟨h'.1,h'.2.1⟩
theorem Rg.self (hr:Rg P ops E F H){i d:Nat}(h:i∈E∨i∈F)(hd:(af ops i).dst=some d):d∉(af ops i).looksAt ops:=by
 intro hl;have hlt:i<ops.size:=h.elim (hr.QZ i) (hr.M4 i);have:=re hr.xP i i ((hr.KO i hlt i h).1 (sk hd hl));omega
theorem kZ {ι':En}{v:AV}{cv:Value}{d:Option Tmp}(ht:bW ι' nt tm c)(hd:∀t,d=some t->t<nt)(hv:cv=ak ι' v):bW ι' nt (kK d tm v) (c.put d cv):=by
 cases d with
 |none=>exact ht
 |some t=>exact kY ht (hd t rfl) hv
theorem fV {a:Act}{d:Option Tmp}{v:Value}{t:Nat}(h:d≠some t):tv (a.put d v) t=tv a t:=by
 cases d with
 |none=>rfl
 |some d =>
  have hne:d≠t:=fun e=>h (by rw[e]);unfold tv Act.put;simp only[zah,zck hne]
theorem jy {a:Act}{d:Nat}{v:Value}(h:d<a.tmps.size):tv (a.put (some d) v) d=v:=by rw[iY h,if_pos rfl]
theorem xQ (hr:Rg P ops E F H){CF CH:List Nat}{K:Tm->Tr AO->Pz->Rs}:∀(es CE G:List Nat)(tm:Tm)(c:Act),BT ops E F CF es CE=true->Sync P ops nt E F H CE CF CH L B S w0 tm hp nx ι β c a w ->
  (dq P nt ops (es.map (af ops))).run call tm hp nx K=.ok->(∀g∈G,g∈E/\g∈CE/\qp P ops nt tm hp (af ops g)/\∀e∈E,lk ops g e=true->e∈CE) ->
  ∃tm' c',K tm' hp nx=.ok/\Sync P ops nt E F H (es.reverse++CE) CF CH L B S w0 tm' hp nx ι β c' a w/\∀g,g∈G∨g∈es->qp P ops nt tm' hp (af ops g)
 | [],CE,G,tm,c,_,hs,h,hG=>⟨tm,c,h,hs,fun g hg=>by
   rcases hg with hg|hg
   ·exact (hG g hg).2.2.1
   ·simp at hg⟩
 |i::es,CE,G,tm,c,hq,hs,h,hG=>by
  simp only[BT,za,zaj,zb,zbn,zar]at hq;obtain⟨⟨⟨⟨q1,q2⟩,q3⟩,q4⟩,q5⟩:=hq;have q2:i∉CE:=by simpa using q2
  have hlt:=hr.QZ i q1;have h:(fb P nt ops (af ops i)).run call tm hp nx (fun tm hp nx=>(dq P nt ops (es.map (af ops))).run call tm hp nx K)=.ok:=h;obtain⟨hd,v,h,hv⟩:=oR (hr.kE i q1) h;have hLi:¬L i:=fun h'=>q2 (hs.el i q1 h')
  have hren:∀ι',al nx ι ι'->ak ι v=ak ι' v:=fun ι' hι=>by
   obtain⟨t1,c1⟩:=hs.sat.2 ι (al.refl _ _);obtain⟨t2,c2⟩:=hs.sat.2 ι' hι;exact (hv _ _ ι c w t1 c1).Oz (hv _ _ ι' c w t2 c2)
  have hs1:Sync P ops nt E F H (i::CE) CF CH L B S w0 (kK (af ops i).dst tm v) hp nx ι β (c.put (af ops i).dst (ak ι v)) a w:=by
   refine⟨hs.down,hs.Q0,hs.hv,hs.fl,fun j hj h'=>zaa _ (hs.el j hj h'),hs.kept,hs.sub,⟨hs.sat.1,fun ι' hι=>⟨kZ (hs.sat.2 ι' hι).1 hd (hren ι' hι),(hs.sat.2 ι' hι).2⟩⟩,hs.qs,hs.inj,hs.size,(by rw[put_defers];exact hs.defers),fun t ht=>?_⟩;have hne:(af ops i).dst≠some t:=fun e=>hLi ((ht i (.inl q1) e).2 (.inl (zac ..)));rw[fV hne];refine hs.link t fun j hj hjd=>(ht j hj hjd).trans ?_;have hji:j≠i:=fun e=>hne (e▸hjd);simp[hji]
  have hfact:∀g,g∈E->g≠i->(lk ops g i=true->i∈CE)->qp P ops nt tm hp (af ops g)->qp P ops nt (kK (af ops i).dst tm v) hp (af ops g):=by
   intro g hg hgi hlk ⟨u,h1,h2⟩;refine⟨u,fun d hd'=>?_,LV.kK (hr.GV g (hr.QZ g hg)) hd (fun t ht hl=>q2 (hlk (sk ht hl))) h2⟩;obtain⟨h3,h4⟩:=h1 d hd';refine⟨?_,h4⟩;cases hdi:(af ops i).dst with
   |none=>exact h3
   |some t =>
    have hne:d≠t:=fun e=>(hr.KO g (hr.QZ g hg) i (.inl q1)).2 hgi t hdi (e▸hd');show (tm.put t v).at d=u;rw[Tm.fT hne,h3]
  have hnew:qp P ops nt (kK (af ops i).dst tm v) hp (af ops i):=by
   refine⟨v,fun d hd'=>⟨?_,hd d hd'⟩,LV.kK (hr.GV i hlt) hd (fun t ht=>hr.self (.inl q1) ht) hv⟩;rw[hd'];exact Tm.ec _ _ _
  obtain⟨tm',c',h1,h2,h3⟩:=xQ hr es (i::CE) (i::G) _ _ q5 hs1 h (fun g hg=>by
   rcases List.mem_cons.1 hg with rfl|hg
   ·exact⟨q1,zac ..,hnew,fun e he hlk=>zaa _ ((q4 e he).resolve_left (by simp[hlk]))⟩
   ·obtain⟨g1,g2,g3,g4⟩:=hG g hg
    exact⟨g1,zaa _ g2,hfact g g1 (fun e=>q2 (e▸g2)) (fun hl=>g4 i q1 hl) g3,fun e he hlk=>zaa _ (g4 e he hlk)⟩)
  refine⟨tm',c',h1,by simpa using h2,fun g hg=>h3 g ?_⟩;rcases hg with hg|hg
  ·exact .inl (zaa _ hg)
  ·rcases List.mem_cons.1 hg with rfl|hg
   ·exact .inl (zac ..)
   ·exact .inr hg
def TZ (P:Program)(ops:Array Oper)(a:Act)(o:Oper):Prop :=
 (gV P o=true/\∃cv,∀w1,Yv P ops o a w1 cv)∨
 (gV P o=false/\o.guard=none/\∃d,o.dst=some d/\∀b,∃cv y,∀w1:World,w1.heap.size=b->(execOp a.eval o).run P w1=.ok (.value cv) (w1.alloc y))
theorem Ar (b:Nat):∃w1:World,w1.heap.size=b:=⟨{ (default:World)with heap:=Array.replicate b (.map #[] 0) },by simp⟩
theorem qt (hr:Rg P ops E F H){CE CF CH:List Nat}(hs:Sync P ops nt E F H CE CF CH L B S w0 tm hp nx ι β c a w){r:Rs}:∀(sp CFs:List Nat)(tms:Tm)(hps:Tr AO)(nxs:Pz)(ιs:En)(cs:Act),sL ops E F CE sp CFs=true->(∀i∈CF,i∈CFs) ->
  (dq P nt ops (sp.map (af ops))).run call tms hps nxs (fun _ _ _=>r)=.ok->(∀ι',al nxs ιs ι'->bW ι' nt tms cs) ->
  (∀t,(∀i,i∈E∨i∈F->(af ops i).dst=some t->(L i ↔ (i∈CE∨i∈CFs)))->tv a t=tv cs t) ->
  r=.ok/\∀f∈sp,(∀i,bit (Region.before ops) f i=true->L i)->TZ P ops a (af ops f)/\∀d,(af ops f).dst=some d->d<nt
 | [],CFs,tms,hps,nxs,ιs,cs,_,_,h,_,_=>⟨h,fun f hf=>by simp at hf⟩
 |f::sp,CFs,tms,hps,nxs,ιs,cs,hq,hsub,h,hfit,hlink=>by
  simp only[sL,za,zaj,zb,zbn,zar]at hq;obtain⟨⟨⟨⟨q1,q2⟩,q3⟩,q4⟩,q5⟩:=hq;have q2:f∉CFs:=by simpa using q2
  have hlt:=hr.M4 f q1;have hsel:=hr.GV f hlt
  have hsame:(∀i,bit (Region.before ops) f i=true->L i)->∀t∈(af ops f).looksAt ops,tv a t=tv cs t:=by
   intro hpre t ht;refine hlink t fun i hi hid=>?_;have hl:=sk hid ht;refine⟨fun _=>?_,fun _=>hpre i ((hr.KO f hlt i hi).1 hl)⟩;rcases hi with hi|hi
   ·exact .inl ((q4 i hi).resolve_left (by simp[hl]))
   ·exact .inr ((q3 i hi).resolve_left (by simp[hl]))
  have hpreL:L f->∀i,bit (Region.before ops) f i=true->L i:=fun hf i hb=>gR L hs.down f i hf hb;have h:(fb P nt ops (af ops f)).run call tms hps nxs (fun tm hp nx=>(dq P nt ops (sp.map (af ops))).run call tm hp nx (fun _ _ _=>r))=.ok:=h
  have oq:∀(cv:Value) (t:Nat),(∀d,(af ops f).dst=some d->d<nt)->(L f->∀d,(af ops f).dst=some d->tv a d=cv) ->
    (∀i,i∈E∨i∈F->(af ops i).dst=some t->(L i ↔ (i∈CE∨i∈f::CFs)))->tv a t=tv (cs.put (af ops f).dst cv) t:=by
   intro cv t hd hval ht;by_cases hdt:(af ops f).dst=some t
   ·have hLf:=(ht f (.inr q1) hdt).2 (.inr (zac ..));rw[hval hLf t hdt,hdt,jy];rw[(hfit ιs (al.refl _ _)).size];exact hd t hdt
   ·rw[fV hdt];refine hlink t fun i hi hid=>(ht i hi hid).trans ?_;have:i≠f:=fun e=>hdt (e▸hid);simp[this]
  cases hk:gV P (af ops f)with
  |true =>
   obtain⟨hd,v,h,hv⟩:=wi hk h;have hy:∀ι',al nxs ιs ι'->∀w1,Yv P ops (af ops f) cs w1 (ak ι' v):=fun ι' hι w1=>hv _ _ ι' cs w1 (hfit ι' hι) (HL ι' w1);have hya:(∀i,bit (Region.before ops) f i=true->L i)->∀w1,Yv P ops (af ops f) a w1 (ak ιs v):=fun hpre w1=>(hy ιs (al.refl _ _) w1).same hsel (fun t ht=>(hsame hpre t ht).symm)
   obtain⟨r1,r2⟩:=qt hr hs sp (f::CFs) _ hps nxs ιs (cs.put (af ops f).dst (ak ιs v)) q5 (fun i hi=>zaa _ (hsub i hi)) h
    (fun ι' hι=>kZ (hfit ι' hι) hd ((hy ιs (al.refl _ _) default).Oz (hy ι' hι default)))
    (fun t ht=>oq _ t hd (fun hLf d hdd=>by
     rcases hs.qs f q1 hLf (fun hc=>q2 (hsub f hc))with ⟨_,cv,p1,p2⟩|⟨p0,_⟩
     ·rw[p2 d hdd];exact (p1 default).Oz (hya (hpreL hLf) default)
     ·rw[hk]at p0;cases p0) ht)
   refine⟨r1,fun g hg hpre=>?_⟩;rcases List.mem_cons.1 hg with rfl|hg
   ·exact⟨.inl ⟨hk,_,hya hpre⟩,hd⟩
   ·exact r2 g hg hpre
  |false =>
   obtain⟨hn,hgd,d,hdd⟩:=wj (hr.kF f q1) hk;obtain⟨hd,v,x,h,hx⟩:=Ao hn hgd h
   have hrun:∀b,∃y,∀ι',al nxs.succ (ιs.at nxs b 0 0) ι'->∀w1:World,w1.heap.size=b->(execOp cs.eval (af ops f)).run P w1=.ok (.value (ak (ιs.at nxs b 0 0) v)) (w1.alloc y)/\ak ι' v=ak (ιs.at nxs b 0 0) v:=by
    intro b;have hag:al nxs ιs (ιs.at nxs b 0 0):=g9 ιs nxs b 0 0;obtain⟨y,h1,h2⟩:=hx.2.2 (ιs.at nxs b 0 0) nt cs (hfit _ hag) (by simp[En.at]);refine⟨y,fun ι' hι w1 hw1=>⟨h1 w1 (by simp[En.at,hw1]),?_⟩⟩;obtain⟨ha,hb,hsh,_⟩:=dw hι;obtain⟨y',h3,h4⟩:=hx.2.2 ι' nt cs (hfit _ ha) hsh;have e1:=h1 w1 (by simp[En.at,hw1]);have e2:=h3 w1 (by rw[hb,hw1]);rw[e1]at e2;simp only[Result.ok.injEq,Next.value.injEq]at e2;exact e2.1.symm
   obtain⟨b,hb⟩:∃b,b=β f:=⟨_,rfl⟩;obtain⟨y,hy⟩:=hrun b;obtain⟨w1,hw1⟩:=Ar b
   obtain⟨r1,r2⟩:=qt hr hs sp (f::CFs) _ _ nxs.succ (ιs.at nxs b 0 0) (cs.put (af ops f).dst (ak (ιs.at nxs b 0 0) v)) q5 (fun i hi=>zaa _ (hsub i hi)) h
    (fun ι' hι=>kZ (hfit ι' (dw hι).1) hd (hy ι' hι w1 hw1).2.symm)
    (fun t ht=>oq _ t hd (fun hLf d' hd'=>by
     rcases hs.qs f q1 hLf (fun hc=>q2 (hsub f hc))with ⟨p0,_⟩|⟨_,y',d2,p1,p2,p3,p4,p5⟩
     ·rw[hk]at p0;cases p0
     ·rw[hd']at p4;cases p4;have e1:=p5 w1 (by rw[hw1,hb]);rw[gQ hsel (hsame (hpreL hLf)),(hy _ (al.refl _ _) w1 hw1).1]at e1;simp only[Result.ok.injEq,Next.value.injEq]at e1
      exact e1.1.symm) ht)
   refine⟨r1,fun g hg hpre=>?_⟩;rcases List.mem_cons.1 hg with rfl|hg
   ·refine⟨.inr ⟨hk,hgd,d,hdd,fun b'=>?_⟩,hd⟩;obtain⟨y',hy'⟩:=hrun b';exact⟨_,y',fun w1 hw1=>by rw[gQ hsel (hsame hpre)];exact (hy' _ (al.refl _ _) w1 hw1).1⟩
   ·exact r2 g hg hpre
end
end Go.aI
namespace Go.aI
open Go.RowKit
section
variable {P:Program}{ops:Array Oper}{nt:Nat}{E F H:List Nat}{call:bP}{L:Nat->Prop}{B S:Nat->Prop}{w0 w:World}{tm:Tm}{hp:Tr AO}{nx:Pz}{ι:En}{β:Nat->Nat}{c a:Act}
theorem Cc {o:AO}{y:Obj}{b:Nat}(hw:Wf hp nx)(hc:Core S w0 ι hp w)(hb:ι.aS nx=b)(hS:S b)(ho:iu o=none)(hx:∀e s,o≠.dJ e s)(hob:ji ι (hp.set nx o) w nx o) :
  Core (fun k=>S k/\k≠b) w0 ι (hp.set nx o) w:=by
 have hne:∀i p,hp.get i=some p->i≠nx:=fun i p hi e=>by have:=hw.lt _ _ hi;rw[e]at this;omega
 have hnb:∀i p,hp.get i=some p->own hp p->ι.aS i≠b:=fun i p hi hp' e=>hc.base _ _ hi hp' (e▸hS);refine⟨hc.below.mono fun k hk=>hk.1,fun k hk=>hc.room k hk.1,?_,?_,?_,?_⟩
 ·intro i p hi;rcases ah hi with ⟨rfl,rfl⟩|⟨hi',hi⟩
  ·exact hob
  ·exact (hc.obj _ _ hi).bE (ck hw hx) fun _=>rfl
 ·intro i p hi ho';rcases ah hi with ⟨rfl,_⟩|⟨hi',hi⟩
  ·rw[hb];exact fun h=>h.2 rfl
  ·exact fun h=>hc.base _ _ hi (ck hw hx ho') h.1
 ·intro i i' p p' hii hi hi' ho1 ho2 e;rcases ah hi with ⟨h1,h2⟩|⟨h1,g1⟩
  ·rcases ah hi' with ⟨h3,_⟩|⟨h3,g3⟩
   ·exact absurd (h1.trans h3.symm) hii
   ·rw[h1,hb]at e;exact absurd e.symm (hnb _ _ g3 (ck hw hx ho2))
  ·rcases ah hi' with ⟨h3,_⟩|⟨h3,g3⟩
   ·rw[h3,hb]at e;exact absurd e (hnb _ _ g1 (ck hw hx ho1))
   ·exact hc.sep _ _ _ _ hii g1 g3 (ck hw hx ho1) (ck hw hx ho2) e
 ·intro i i' f e es n el c f' e' tp' es' n' el' c' hii h h' hl hl';rcases ah h with ⟨_,h⟩|⟨_,h⟩
  ·rw[h]at ho;cases ho
  ·rcases ah h' with ⟨_,h'⟩|⟨_,h'⟩
   ·rw[h']at ho;cases ho
   ·exact hc.e9 _ _ _ _ _ _ _ _ _ _ _ _ _ _ _ hii h h' (ck (o:=.cG f e true es n el c) hw hx hl) (ck (o:=.cG f' e' tp' es' n' el' c') hw hx hl')
theorem sr {w1:World}(h:Core S w0 ι hp w):Core S w ι hp w:=⟨Kept.refl _ _,h.room,h.obj,h.base,h.sep,h.e9⟩
theorem tf (hr:Rg P ops E F H){CE CH:List Nat}{K:Tm->Tr AO->Pz->Rs}:∀(fs CF:List Nat)(tm:Tm)(hp:Tr AO)(nx:Pz)(ι:En)(S:Nat->Prop)(c:Act),sL ops E F CE fs CF=true ->
  Sync P ops nt E F H CE CF CH L B S w0 tm hp nx ι β c a w->(∀f∈fs,L f)->(dq P nt ops (fs.map (af ops))).run call tm hp nx K=.ok ->
  ∃tm' hp' nx' ι' S' c',K tm' hp' nx'=.ok/\nx.num<=nx'.num/\al nx ι ι'/\Sync P ops nt E F H CE (fs.reverse++CF) CH L B S' w0 tm' hp' nx' ι' β c' a w
 | [],CF,tm,hp,nx,ι,S,c,_,hs,_,h=>⟨tm,hp,nx,ι,S,c,h,zad _,al.refl _ _,hs⟩
 |f::fs,CF,tm,hp,nx,ι,S,c,hq,hs,hL,h=>by
  simp only[sL,za,zaj,zb,zbn,zar]at hq;obtain⟨⟨⟨⟨q1,q2⟩,q3⟩,q4⟩,q5⟩:=hq;have q2:f∉CF:=by simpa using q2
  have hlt:=hr.M4 f q1;have hsel:=hr.GV f hlt;have hLf:=hL f (zac ..);have hpre:∀i,bit (Region.before ops) f i=true->L i:=fun i hb=>gR L hs.down f i hLf hb
  have hsame:∀t∈(af ops f).looksAt ops,tv a t=tv c t:=by
   intro t ht;refine hs.link t fun i hi hid=>?_;have hl:=sk hid ht;refine⟨fun _=>?_,fun _=>hpre i ((hr.KO f hlt i hi).1 hl)⟩;rcases hi with hi|hi
   ·exact .inl ((q4 i hi).resolve_left (by simp[hl]))
   ·exact .inr ((q3 i hi).resolve_left (by simp[hl]))
  have h:(fb P nt ops (af ops f)).run call tm hp nx (fun tm hp nx=>(dq P nt ops (fs.map (af ops))).run call tm hp nx K)=.ok:=h
  have oq:∀(cv:Value) (t:Nat),(∀d,(af ops f).dst=some d->d<nt)->(∀d,(af ops f).dst=some d->tv a d=cv) ->
    (∀i,i∈E∨i∈F->(af ops i).dst=some t->(L i ↔ (i∈CE∨i∈f::CF)))->tv a t=tv (c.put (af ops f).dst cv) t:=by
   intro cv t hd hval ht;by_cases hdt:(af ops f).dst=some t
   ·rw[hval t hdt,hdt,jy];rw[(hs.sat.2 ι (al.refl _ _)).1.size];exact hd t hdt
   ·rw[fV hdt];refine hs.link t fun i hi hid=>(ht i hi hid).trans ?_;have:i≠f:=fun e=>hdt (e▸hid);simp[this]
  have hfl:∀i∈f::CF,L i:=fun i hi=>by
   rcases List.mem_cons.1 hi with rfl|hi
   ·exact hLf
   ·exact hs.fl i hi
  have hnot:∀{g},g∉f::CF->g∉CF/\g≠f:=fun hg=>⟨fun h'=>hg (zaa _ h'),fun e=>hg (e▸zac ..)⟩;cases hk:gV P (af ops f)with
  |true =>
   obtain⟨hd,v,h,hv⟩:=wi hk h;have hy:∀ι',al nx ι ι'->∀w1,Yv P ops (af ops f) c w1 (ak ι' v):=fun ι' hι w1=>hv _ _ ι' c w1 (hs.sat.2 ι' hι).1 (HL ι' w1)
   have hval:∀d,(af ops f).dst=some d->tv a d=ak ι v:=fun d hdd=>by
    rcases hs.qs f q1 hLf q2 with ⟨_,cv,p1,p2⟩|⟨p0,_⟩
    ·rw[p2 d hdd];exact (p1 default).Oz ((hy ι (al.refl _ _) default).same hsel (fun t ht=>(hsame t ht).symm))
    ·rw[hk]at p0;cases p0
   obtain⟨tm',hp',nx',ι',S',c',g1,g2,g3,g4⟩:=tf hr fs (f::CF) _ hp nx ι S (c.put (af ops f).dst (ak ι v)) q5
    ⟨hs.down,hs.Q0,hs.hv,hfl,hs.el,hs.kept,hs.sub,⟨hs.sat.1,fun ι' hι=>⟨kZ (hs.sat.2 ι' hι).1 hd ((hy ι (al.refl _ _) default).Oz (hy ι' hι default)),(hs.sat.2 ι' hι).2⟩⟩,
     fun g hg hLg hgc=>hs.qs g hg hLg (hnot hgc).1,fun g hg g' hg' l l' n n'=>hs.inj g hg g' hg' l l' (hnot n).1 (hnot n').1,hs.size,(by rw[put_defers];exact hs.defers),fun t ht=>oq _ t hd hval ht⟩
    (fun g hg=>hL g (zaa _ hg)) h
   exact⟨tm',hp',nx',ι',S',c',g1,g2,g3,by simpa using g4⟩
  |false =>
   obtain⟨hn,hgd,d,hdd⟩:=wj (hr.kF f q1) hk;obtain⟨hd,v,x,h,hx⟩:=Ao hn hgd h;rcases hs.qs f q1 hLf q2 with ⟨p0,_⟩|⟨_,y,d2,p1,p2,p3,p4,p5⟩
   ·rw[hk]at p0;cases p0
   have hag:al nx ι (ι.at nx (β f) 0 0):=g9 ι nx (β f) 0 0;obtain⟨w1,hw1⟩:=Ar (β f)
   have key:∀ι',al nx.succ (ι.at nx (β f) 0 0) ι'->tv a d2=ak ι' v/\∀hp w',w'.heap[β f]?=some y->ji ι' hp w' nx x:=by
    intro ι' hι;obtain⟨ha,hb,hsh,_⟩:=dw hι;obtain⟨y',h3,h4⟩:=hx.2.2 ι' nt c (hs.sat.2 ι' ha).1 hsh;have e1:=p5 w1 hw1;have e2:=h3 w1 (by rw[hb,hw1]);rw[gQ hsel hsame,e2]at e1;simp only[Result.ok.injEq,Next.value.injEq]at e1;refine⟨e1.1.symm,fun hp w' hw'=>h4 hp w' ?_⟩;rw[hb,hw'];have e3:=congrArg (fun (u:World)=>u.heap[β f]?) e1.2;rw[<-hw1,bO,bO]at e3;exact e3.symm
   have hval:∀d',(af ops f).dst=some d'->tv a d'=ak (ι.at nx (β f) 0 0) v:=fun d' hd'=>by
    rw[p4]at hd';cases hd';exact (key _ (al.refl _ _)).1
   have hsub':∀k,B k->S k/\k≠β f:=fun k hk=>⟨hs.sub k hk,fun e=>p2 (e▸hk)⟩
   obtain⟨tm',hp',nx',ι',S',c',g1,g2,g3,g4⟩:=tf hr fs (f::CF) _ (hp.set nx x) nx.succ (ι.at nx (β f) 0 0) (fun k=>S k/\k≠β f) (c.put (af ops f).dst (ak (ι.at nx (β f) 0 0) v)) q5
    ⟨hs.down,hs.Q0,hs.hv,hfl,hs.el,hs.kept,hsub',⟨oN hs.sat.1 hx.1 hx.2.1,fun ι' hι=>by
      obtain⟨ha,hb,hsh,_⟩:=dw hι;obtain⟨k1,k2⟩:=key ι' hι;refine⟨kZ (hs.sat.2 ι' ha).1 hd ?_,Cc (y:=y) hs.sat.1 (hs.sat.2 ι' ha).2 hb p1 hx.1 hx.2.1 (k2 _ _ p3)⟩;rw[<-k1]
      exact (key _ (al.refl _ _)).1.symm⟩,
     fun g hg hLg hgc=>by
      obtain⟨n1,n2⟩:=hnot hgc;rcases hs.qs g hg hLg n1 with hp'|⟨r0,y',d',r1,r2,r3,r4,r5⟩
      ·exact .inl hp'
      ·exact .inr ⟨r0,y',d',⟨r1,fun e=>n2 (hs.inj g hg f q1 hLg hLf n1 q2 r0 hk e)⟩,r2,r3,r4,r5⟩,
     fun g hg g' hg' l l' n n'=>hs.inj g hg g' hg' l l' (hnot n).1 (hnot n').1,hs.size,(by rw[put_defers];exact hs.defers),fun t ht=>oq _ t hd hval ht⟩
    (fun g hg=>hL g (zaa _ hg)) h
   exact⟨tm',hp',nx',ι',S',c',g1,by rw[Pz.cw]at g2;omega,hag.trans (tN g3) (zad _),by simpa using g4⟩
end
end Go.aI
namespace Go.aI
open Go.RowKit
section
variable {P:Program}
mutual
theorem oS:∀(a b:AV),sK a b=true->a=b
 |.bool a,b,h=>by
  cases b<;>simp[sK]at h
  rw[h]
 |.int j a,b,h=>by
  cases b<;>simp[sK]at h
  rw[h.1,h.2]
 |.str j a,b,h=>by
  cases b<;>simp only[sK,za,reduceCtorEq,zag]at h
  rw[ai h.1,ai h.2]
 |.float j a,b,h=>by
  cases b<;>simp only[sK,za,decide_eq_true_eq,reduceCtorEq,zag]at h
  rw[h.1,ai h.2]
 |.ptr j a,b,h=>by
  cases b<;>simp only[sK,za,reduceCtorEq,zag]at h
  rw[gC _ _ h.1,ai h.2]
 |.dY,b,h=>by
  cases b<;>simp[sK]at h
  rfl
 |.slice p o l c,b,h=>by
  cases b<;>simp only[sK,za,reduceCtorEq,zag]at h
  rw[gC _ _ h.1,ai h.2.1,ai h.2.2.1,ai h.2.2.2]
 |.bt p o l c,b,h=>by
  cases b<;>simp only[sK,za,reduceCtorEq,zag]at h
  rw[gC _ _ h.1,ai h.2.1,ai h.2.2.1,ai h.2.2.2]
 |.ab,b,h=>by
  cases b<;>simp[sK]at h
  rfl
 |.map p,b,h=>by
  cases b<;>simp only[sK,za,reduceCtorEq,zag]at h
  rw[gC _ _ h]
 |.bg,b,h=>by
  cases b<;>simp[sK]at h
  rfl
 |.func f x y,b,h=>by
  cases b<;>simp only[sK,za,decide_eq_true_eq,reduceCtorEq,zag]at h
  rw[h.1,lV _ _ h.2.1,lV _ _ h.2.2]
 |.cy,b,h=>by
  cases b<;>simp[sK]at h
  rfl
 |.iface t v,b,h=>by
  cases b<;>simp only[sK,za,reduceCtorEq,zag]at h
  rw[ai h.1,oS _ _ h.2]
 |.nilIface,b,h=>by
  cases b<;>simp[sK]at h
  rfl
 |.agg xs,b,h=>by
  cases b<;>simp only[sK,za,reduceCtorEq,zag]at h
  rw[lV _ _ h]
 |.dC xs,b,h=>by
  cases b<;>simp only[sK,za,reduceCtorEq,zag]at h
  rw[lV _ _ h]
theorem lV:∀(a b:List AV),tF a b=true->a=b
 | [],[],_=>rfl
 |x::xs,y::ys,h=>by
  simp only[tF,za]at h;rw[oS _ _ h.1,lV _ _ h.2]
 | [],_::_,h=>by simp[tF]at h
 |_::_,[],h=>by simp[tF]at h
end
theorem rh:∀(a b:Tr (List AV)),DA a b=true->a=b
 |.e,b,h=>by
  cases b with
  |e=>rfl
  |n l v r=>simp[DA]at h
 |.n l none r,b,h=>by
  cases b with
  |e=>simp[DA]at h
  |n l' v r' =>
   cases v with
   |some v=>simp[DA]at h
   |none =>
    simp only[DA,za]at h;rw[rh _ _ h.1,rh _ _ h.2]
 |.n l (some u) r,b,h=>by
  cases b with
  |e=>simp[DA]at h
  |n l' v r' =>
   cases v with
   |none=>simp[DA]at h
   |some v =>
    simp only[DA,za]at h;rw[lV _ _ h.1,rh _ _ h.2.1,rh _ _ h.2.2]
theorem oT:∀(a b:List ME),Fu a b=true->a=b
 | [],[],_=>rfl
 |⟨a,b,c⟩::xs,⟨a',b',c'⟩::ys,h=>by
  simp only[Fu,za]at h;rw[oS _ _ h.1,oS _ _ h.2.1,ai h.2.2.1,oT _ _ h.2.2.2]
 | [],_::_,h=>by simp[Fu]at h
 |_::_,[],h=>by simp[Fu]at h
theorem wk {a b:Bool}(h:oG a b=true):a=b:=by cases a<;>cases b<;>first|rfl|cases h
theorem OC (a b:AO)(h:TW a b=true):a=b:=by
 cases a<;>cases b<;>simp only[TW,za,reduceCtorEq,zag,decide_eq_true_eq]at h
 ·rw[ai h.1,ai h.2.1,ai h.2.2.1,rh _ _ h.2.2.2]
 ·rw[gC _ _ h.1,ai h.2.1,wk h.2.2.1,ai h.2.2.2.1,ai h.2.2.2.2.1,ai h.2.2.2.2.2.1,rh _ _ h.2.2.2.2.2.2]
 ·rw[ai h.1,wk h.2]
 ·rw[ai h.1,oT _ _ h.2]
 ·rw[gC _ _ h.1,ai h.2.1,h.2.2.1,ai h.2.2.2]
 ·rfl
 ·rfl
theorem lW:∀(a b:Tr AO),qU a b=true->∀id o,a.get id=some o->b.get id=some o
 |.e,_,_,id,o,h=>by cases id<;>simp[Tr.get]at h
 |.n l none r,.e,h,id,o,hg=>by simp[qU]at h
 |.n l (some v) r,.e,h,id,o,hg=>by simp[qU]at h
 |.n l (some v) r,.n l' none r',h,id,o,hg=>by simp[qU]at h
 |.n l none r,.n l' v' r',h,id,o,hg=>by
  simp only[qU,za]at h;cases id with
  |h=>simp[Tr.get]at hg
  |o p=>exact lW l l' h.1 p o hg
  |i p=>exact lW r r' h.2 p o hg
 |.n l (some v) r,.n l' (some v') r',h,id,o,hg=>by
  simp only[qU,za]at h;cases id with
  |h=>simp only[Tr.get]at hg ⊢;rw[<-hg,OC _ _ h.1]
  |o p=>exact lW l l' h.2.1 p o hg
  |i p=>exact lW r r' h.2.2 p o hg
def Part (a b:Tr AO):Prop:=∀id o,a.get id=some o->b.get id=some o
theorem Part.live {a b:Tr AO}(h:Part a b){f:Pz}{ep:Nat}(hl:live a f ep):live b f ep:=hl.imp fun _ hs=>h _ _ hs
theorem Part.own {a b:Tr AO}(h:Part a b){o:AO}(hl:own a o):own b o:=by
 cases o with
 |cG=>exact h.live hl
 |dJ=>exact hl
 |arr=>trivial
 |map=>trivial
 |iter=>trivial
 |loop=>trivial
 |fa=>trivial
 |gone=>trivial
theorem jz {B:Nat->Prop}{w0 w:World}{ι:En}{a b:Tr AO}(h:Part a b)(hc:Core B w0 ι b w):Core B w0 ι a w :=
 ⟨hc.below,hc.room,fun id o hid=>(hc.obj id o (h _ _ hid)).bE h.own (fun _=>rfl),fun id o hid ho=>hc.base id o (h _ _ hid) (h.own ho),
  fun id id' o o' hne hid hid' ho ho'=>hc.sep id id' o o' hne (h _ _ hid) (h _ _ hid') (h.own ho) (h.own ho'),
  fun id id' f ep es n el c f' ep' tp' es' n' el' c' hne hid hid' hl hl'=>hc.e9 id id' f ep es n el c f' ep' tp' es' n' el' c' hne (h _ _ hid) (h _ _ hid') (h.live hl) (h.live hl')⟩
theorem xR {a b:Tr AO}{nx nx':Pz}(h:Part a b)(hle:nx.num<=nx'.num)(hw:Wf b nx):Wf a nx' :=
 ⟨fun id o hid=>zaw (hw.lt id o (h _ _ hid)) hle,fun id f ep tp es n el c hid=>zaw (hw.dJ id f ep tp es n el c (h _ _ hid)) hle,
  fun id f ep tp es n el c e s hid hf=>hw.ep id f ep tp es n el c e s (h _ _ hid) (h _ _ hf),
  fun f e id id' tp es n el c tp' es' n' el' c' hf hid hid'=>hw.ix f e id id' tp es n el c tp' es' n' el' c' (h _ _ hf) (h _ _ hid) (h _ _ hid')⟩
theorem As {α:Type}{f:α->α->Bool}(hf:∀x y,f x y=true->x=y){a b:gH α}(h:DB f a b=true):a=b:=by
 obtain⟨a0,a1,a2,a3,a4,a5,a6,a7⟩:=a;obtain⟨b0,b1,b2,b3,b4,b5,b6,b7⟩:=b;simp only[DB,za]at h;obtain⟨h0,h1,h2,h3,h4,h5,h6,h7⟩:=h;rw[hf _ _ h0,hf _ _ h1,hf _ _ h2,hf _ _ h3,hf _ _ h4,hf _ _ h5,hf _ _ h6,hf _ _ h7]
theorem qu {α:Type}{f:α->α->Bool}(hf:∀x y,f x y=true->x=y):∀(a b:Tr α),qV f a b=true->a=b
 |.e,b,h=>by
  cases b with
  |e=>rfl
  |n l v r=>simp[qV]at h
 |.n l none r,b,h=>by
  cases b with
  |e=>simp[qV]at h
  |n l' v r' =>
   cases v with
   |some v=>simp[qV]at h
   |none =>
    simp only[qV,za]at h;rw[qu hf _ _ h.1,qu hf _ _ h.2]
 |.n l (some u) r,b,h=>by
  cases b with
  |e=>simp[qV]at h
  |n l' v r' =>
   cases v with
   |none=>simp[qV]at h
   |some v =>
    simp only[qV,za]at h;rw[hf _ _ h.1,qu hf _ _ h.2.1,qu hf _ _ h.2.2]
theorem Au:∀(a b:List Pz),vJ a b=true->a=b
 | [],[],_=>rfl
 |x::xs,y::ys,h=>by
  simp only[vJ,za]at h;rw[gC _ _ h.1,Au _ _ h.2]
 | [],_::_,h=>by simp[vJ]at h
 |_::_,[],h=>by simp[vJ]at h
theorem KP {a b:Tm}(h:Ol a b=true):a=b:=by
 obtain⟨lo,hi,ml⟩:=a;obtain⟨lo',hi',ml'⟩:=b;simp only[Ol,za]at h;rw[As (fun _ _ h=>As oS h) h.1,qu oS _ _ h.2.1,Au _ _ h.2.2]
end
end Go.aI
namespace Go.aI
open Go.RowKit
section
variable {P:Program}{ops:Array Oper}{nt:Nat}{E F H:List Nat}{call:bP}{L:Nat->Prop}{B S:Nat->Prop}{w0 w:World}{tm:Tm}{hp:Tr AO}{nx:Pz}{ι:En}{β:Nat->Nat}{c a:Act}
theorem uj {CF:List Nat}:∀(es CE:List Nat),BT ops E F CF es CE=true->∀i∈es,i∈E/\∀f∈F,lk ops i f=true->f∈CF
 | [],_,_,i,hi=>by simp at hi
 |j::es,CE,hq,i,hi=>by
  simp only[BT,za,zaj,zb,zbn,zar]at hq;obtain⟨⟨⟨⟨q1,q2⟩,q3⟩,q4⟩,q5⟩:=hq;rcases List.mem_cons.1 hi with rfl|hi
  ·exact⟨q1,fun f hf hl=>(q3 f hf).resolve_left (by simp[hl])⟩
  ·exact uj es _ q5 i hi
theorem vq.put {o:Oper}{β:Nat}{d:Option Tmp}{cv:Value}(hs:jF o=true)(h1:∀t,d=some t->t∉o.looksAt ops)(h2:∀t,d=some t->o.dst≠some t)(h:vq P ops B S β a w o):vq P ops B S β (a.put d cv) w o:=by
 have hsame:∀t∈o.looksAt ops,tv a t=tv (a.put d cv) t:=fun t ht=>(fV fun e=>h1 t e ht).symm;have hval:∀t,o.dst=some t->tv (a.put d cv) t=tv a t:=fun t ht=>fV fun e=>h2 t e ht;rcases h with ⟨hk,v,g1,g2⟩|⟨hk,y,e,g1,g2,g3,g4,g5⟩
 ·exact .inl ⟨hk,v,fun w1=>(g1 w1).same hs hsame,fun t ht=>by rw[hval t ht];exact g2 t ht⟩
 ·exact .inr ⟨hk,y,e,g1,g2,g3,g4,fun w1 hw1=>by rw[<-gQ hs hsame,hval e g4];exact g5 w1 hw1⟩
theorem vq.world {o:Oper}{β:Nat}{w':World}{S':Nat->Prop}(hS:∀k,S k->S' k)(hw:S β->w'.heap[β]?=w.heap[β]?)(h:vq P ops B S β a w o):vq P ops B S' β a w' o:=by
 rcases h with h|⟨hk,y,e,g1,g2,g3,g4,g5⟩
 ·exact .inl h
 ·exact .inr ⟨hk,y,e,hS _ g1,g2,by rw[hw g1];exact g3,g4,g5⟩
structure xS (P:Program) (ops:Array Oper) (nt:Nat) (E F H:List Nat) (call:bP) (X:List Nat) (K:Tm->Tr AO->Pz->Rs) (nx0:Pz) (ι0:En) (ph:Ph) (rest:List Ph) (CE CF CH:List Nat) (L:Nat->Prop) (B S:Nat->Prop) (w0:World) (tm:Tm) (hp:Tr AO) (nx:Pz) (ι:En) (β:Nat->Nat) (c a:Act) (w:World):Prop where
 sync:Sync P ops nt E F H CE CF CH L B S w0 tm hp nx ι β c a w
 le:nx0.num<=nx.num
 bG:al nx0 ι0 ι
 ce:∀i∈CE,i∈E
 ch:∀i∈CH,i∈H
 fact:∀i,i∈ph.es∨i∈ph.rs->i∈CE/\qp P ops nt tm hp (af ops i)/\∀f∈F,lk ops i f=true->f∈CF
 KQ:∀i∈E,i∈ph.es∨i∈ph.rs∨(∃h∈H,h∉CH/\bit (Region.before ops) i h=true)∨∃h∈CH,bit (Region.before ops) h i=true
 KS:∀f∈F,f∈CF∨f∈ph.sp∨∃h∈H,h∉CH/\bit (Region.before ops) f h=true
 sp:sL ops E F CE ph.sp CF=true
 fs:sL ops E F CE ph.fs CF=true
 run:(dq P nt ops (ph.sp.map (af ops))).run call tm hp nx (fun _ _ _ =>
  (dq P nt ops (ph.fs.map (af ops))).run call tm hp nx fun tm hp nx =>
  Option.rec (motive:=fun _=>Rs) (K tm hp nx) (fun h=>(fb P nt ops (af ops h)).run call tm hp nx fun tm hp nx=>(oj P nt ops rest).run call tm hp nx K) ph.h)=.ok
 tail:match ph.h with
  |some h=>h∈H/\h∉CH/\(∀h'∈H,h'∈CH∨h'=h∨bit (Region.before ops) h' h=true∨h'∈X)/\(∀f∈F,lk ops h f=true->f∈ph.fs.reverse++CF) /\
   (∀f∈F,f∈ph.fs.reverse++CF∨lk ops f h=false∨bit (Region.before ops) f h=true)/\(∀f∈ph.fs,bit (Region.before ops) h f=true)/\pR ops (Region.before ops) E F H rest CE (ph.fs.reverse++CF) (h::CH)=true
  |none=>(∀i∈E,i∈CE)/\(∀i∈F,i∈ph.fs.reverse++CF)/\∀i∈H,i∈CH
theorem HO (hr:Rg P ops E F H){X:List Nat}{K:Tm->Tr AO->Pz->Rs}{nx0:Pz}{ι0:En}{ph:Ph}{rest:List Ph}{CE CF CH:List Nat}(h2n:ph.h2=none)(hq:pR ops (Region.before ops) E F H (ph::rest) CE CF CH=true)(hs:Sync P ops nt E F H CE CF CH L B S w0 tm hp nx ι β c a w)
  (hle:nx0.num<=nx.num) (ha:al nx0 ι0 ι) (hce:∀i∈CE,i∈E) (hch:∀i∈CH,i∈H) (h:(oj P nt ops (ph::rest)).run call tm hp nx K=.ok):∃tm' c',xS P ops nt E F H call X K nx0 ι0 ph rest (ph.es.reverse++CE) CF CH L B S w0 tm' hp nx ι β c' a w:=by
 simp only[pR,za]at hq;obtain⟨⟨⟨⟨⟨⟨q1,q2⟩,q3⟩,q4⟩,q5⟩,q6⟩,q7⟩:=hq
 have h:(dq P nt ops (ph.es.map (af ops))).run call tm hp nx (fun tm hp nx =>
  (jE P nt ops (ph.rs.map (af ops))).run call tm hp nx fun tm hp nx =>
  (dq P nt ops (ph.sp.map (af ops))).run call tm hp nx fun _ _ _ =>
  (dq P nt ops (ph.fs.map (af ops))).run call tm hp nx fun tm hp nx =>
  Option.rec (motive:=fun _=>Rs) (K tm hp nx) (fun h=>(fb P nt ops (af ops h)).run call tm hp nx fun tm hp nx=>(oj P nt ops rest).run call tm hp nx K) ph.h)=.ok:=by
  have h:(Qu P nt ops ph (oj P nt ops rest)).run call tm hp nx K=.ok:=h;unfold Qu at h;rw[h2n]at h;exact h
 obtain⟨tm',c',h,hs',hf⟩:=xQ hr ph.es CE [] tm c q1 hs h (fun g hg=>by simp at hg);simp only[zb,za,zbn,zar,zaj,List.any_eq_true]at q2 q3 q4;have hes:=uj ph.es CE q1
 obtain⟨h,hrs⟩:=j5 _ (fun o ho=>by
  obtain⟨i,hi,rfl⟩:=List.mem_map.1 ho
  exact hr.kE i (hce i (q2 i hi).1)) h
 refine⟨tm',c',hs',hle,ha,fun i hi=>?_,hch,fun i hi=>?_,fun i hi=>?_,fun f hf=>?_,q5,q6,h,?_⟩
 ·rcases List.mem_append.1 hi with hi|hi
  ·exact (hes i (List.mem_reverse.1 hi)).1
  ·exact hce i hi
 ·rcases hi with hi|hi
  ·exact⟨zbo _ (List.mem_reverse.2 hi),hf i (.inr hi),(hes i hi).2⟩
  ·exact⟨zbt _ (q2 i hi).1,hrs _ (List.mem_map.2 ⟨i,hi,rfl⟩),fun f hff hl=>((q2 i hi).2 f hff).resolve_left (by simp[hl])⟩
 ·rcases q3 i hi with ((h1|h1)|⟨h1,h2,h3,h4⟩)|⟨h1,h2,h3⟩
  ·exact .inl h1
  ·exact .inr (.inl h1)
  ·exact .inr (.inr (.inl ⟨h1,h2,by simpa using h3,h4⟩))
  ·exact .inr (.inr (.inr ⟨h1,h2,h3⟩))
 ·rcases q4 f hf with (h1|h1)|⟨h1,h2,h3,h4⟩
  ·exact .inl h1
  ·exact .inr (.inl h1)
  ·exact .inr (.inr ⟨h1,h2,by simpa using h3,h4⟩)
 ·cases hh:ph.h with
  |none =>
   rw[hh,h2n]at q7;simp only[zb,za,zbn]at q7;exact⟨q7.1.1,q7.1.2,q7.2⟩
  |some h' =>
   rw[hh,h2n]at q7;simp only[zb,za,zbn,zar,zaj,beq_iff_eq]at q7;obtain⟨⟨⟨⟨⟨⟨r1,r2⟩,r3⟩,r4⟩,r5⟩,r6⟩,r7⟩:=q7;exact⟨r1,by simpa using r2,fun x hx=>(or_assoc.1 (r3 x hx)).imp_right fun h=>h.imp_right .inl,fun f hf hl=>(r4 f hf).resolve_left (by simp[hl]),fun f hf=>or_assoc.1 (r5 f hf),r6,r7⟩
def J (P:Program)(ops:Array Oper)(nt:Nat)(E F H:List Nat)(call:bP)(B:Nat->Prop)(w0:World)(nx0:Pz)(ι0:En)(Z:Act->World->Prop)(L:Nat->Prop)(a:Act)(w:World):Prop :=
 (∃K,fO B w0 nt ι0 nx0 K Z/\∃ph rest CE CF CH S tm hp nx ι β c,xS P ops nt E F H call [] K nx0 ι0 ph rest CE CF CH L B S w0 tm hp nx ι β c a w)∨
 (∃hA hB KA KB,hA≠hB/\fO B w0 nt ι0 nx0 KA Z/\fO B w0 nt ι0 nx0 KB Z /\
  (∃ph rest CE CF CH S tm hp nx ι β c,ph.h=some hA/\(∀f∈F,f∈CF)/\xS P ops nt E F H call [hB] KA nx0 ι0 ph rest CE CF CH L B S w0 tm hp nx ι β c a w) /\
  (∃ph rest CE CF CH S tm hp nx ι β c,ph.h=some hB/\(∀f∈F,f∈CF)/\xS P ops nt E F H call [hA] KB nx0 ι0 ph rest CE CF CH L B S w0 tm hp nx ι β c a w))
theorem oU {o:Oper}(ho:tG o=true){k:Tm->Tr AO->Pz->Rs}(h:(fb P nt ops o).run call tm hp nx k=.ok):∃hp',k tm hp' nx=.ok:=by
 unfold tG at ho;simp only[za,Option.isNone_iff_eq_none]at ho;obtain⟨h1,h2,h3⟩:=ho;unfold fb at h;rw[h3]at h;simp only at h;unfold lJ at h;rw[h2]at h;simp only at h;cases cX:o.op with
 |store t x y =>
  unfold zs at h;rw[cX]at h;simp only at h;cases hi:P.info? t with
  |none=>rw[hi]at h;cases h
  |some i =>
   rw[hi]at h;simp only at h;obtain⟨p,h,_⟩:=aM h;obtain⟨v,h,_⟩:=aM h;obtain⟨id,off,rfl,g⟩:=gW h;obtain⟨_,g⟩:=aJ g;obtain⟨hp',g,_⟩:=kI g;exact⟨hp',g⟩
 |_=>rw[cX]at h1;cases h1
theorem uk {h:Nat}{rs:List Nat}(ho:tG (af ops h)=true)(hk:∀i∈rs,fK P (af ops i)=true){K:Tm->Tr AO->Pz->Rs}(hr:(vK P nt ops h rs).run call tm hp nx K=.ok):∃hp',K tm hp' nx=.ok:=by
 have hr:(jE P nt ops (rs.map (af ops))).run call tm hp nx (fun tm hp nx=>(fb P nt ops (af ops h)).run call tm hp nx fun tm hp nx=>K tm hp nx)=.ok:=hr
 obtain⟨hr,_⟩:=j5 _ (fun o ho=>by
  obtain⟨i,hi,rfl⟩:=List.mem_map.1 ho
  exact hk i hi) hr
 exact oU ho hr
theorem Av {CE CF CH:List Nat}{h:Nat}{rs:List Nat}(ht:xo ops (Region.before ops) E F H h rs CE CF CH=true):pR ops (Region.before ops) E F H (xm h rs) CE CF CH=true/\(∀i∈rs,i∈CE)/\(∀f∈F,f∈CF):=by
 unfold xo at ht;simp only[za]at ht;obtain⟨⟨⟨⟨⟨⟨q1,q2⟩,q3⟩,q4⟩,q5⟩,q6⟩,q7⟩:=ht;refine⟨?_,fun i hi=>?_,fun f hf=>?_⟩
 ·simp only[xm,pR,BT,sL,za,Bool.true_and,List.all_nil,List.reverse_nil,zcx,Bool.and_true];simp only[zb,za,zbn,zar,zaj,beq_iff_eq,List.any_eq_true,List.contains_nil,zcp]at q1 q2 q3 q4 q5 q6 q7 ⊢;refine⟨⟨⟨q1,fun i hi=>?_⟩,fun f hf=>.inl (.inl (q3 f hf))⟩,⟨⟨⟨q5,fun i hi=>?_⟩,fun f hf=>.inr (q3 f hf)⟩,fun f hf=>.inl (.inl (q3 f hf))⟩,⟨fun i hi=>.inr (q7 i hi),fun f hf=>.inl (.inl (q3 f hf))⟩,⟨q2,q3⟩,q4⟩
  ·rcases q6 i hi with (h'|h')|h'
   ·exact .inl (.inl h')
   ·exact .inl (.inr ⟨h,q5.1,q5.2,h'⟩)
   ·exact .inr h'
  ·rcases List.mem_cons.1 (q4 i hi)with h'|h'
   ·exact .inl (.inr h')
   ·exact .inl (.inl h')
 ·have:=(List.all_eq_true.1 q1) i hi;rw[za,zbn]at this;exact this.1
 ·exact List.contains_iff_mem.1 ((List.all_eq_true.1 q3) f hf)
theorem wo (hr:Rg P ops E F H){K:Tm->Tr AO->Pz->Rs}{nx0:Pz}{ι0:En}{Z:Act->World->Prop}(hn:fO B w0 nt ι0 nx0 K Z){ph:Ph}{rest:List Ph}{CE CF CH:List Nat}(hq:pR ops (Region.before ops) E F H (ph::rest) CE CF CH=true)(hs:Sync P ops nt E F H CE CF CH L B S w0 tm hp nx ι β c a w)
  (hle:nx0.num<=nx.num) (ha:al nx0 ι0 ι) (hce:∀i∈CE,i∈E) (hch:∀i∈CH,i∈H) (h:(oj P nt ops (ph::rest)).run call tm hp nx K=.ok):J P ops nt E F H call B w0 nx0 ι0 Z L a w:=by
 cases h2:ph.h2 with
 |none =>
  obtain⟨tm',c',hh⟩:=HO hr (X:=[]) h2 hq hs hle ha hce hch h;exact .inl ⟨K,hn,_,_,_,_,_,_,_,_,_,_,_,_,hh⟩
 |some q =>
  obtain⟨hB,rsA,rsB⟩:=q;simp only[pR,za]at hq;obtain⟨⟨⟨⟨⟨⟨q1,q2⟩,q3⟩,q4⟩,q5⟩,q6⟩,q7⟩:=hq;have h:(Qu P nt ops ph (oj P nt ops rest)).run call tm hp nx K=.ok:=h;unfold Qu at h;rw[h2]at h;simp only at h;cases h1:ph.h with
  |none=>rw[h1]at h;cases h
  |some hA =>
   rw[h1]at h;rw[h1,h2]at q7;simp only[za]at q7;obtain⟨⟨⟨⟨⟨⟨⟨⟨⟨⟨⟨s1,s2⟩,s3⟩,⟨r1,r2⟩⟩,⟨r3,r4⟩⟩,r5⟩,r6⟩,r7⟩,r8⟩,r9⟩,r10⟩,r11⟩:=q7
   have h:(dq P nt ops (ph.es.map (af ops))).run call tm hp nx (fun tm hp nx =>
    (jE P nt ops (ph.rs.map (af ops))).run call tm hp nx fun tm hp nx=>MZ P nt ops hA hB rsA rsB call tm hp nx K)=.ok:=h
   obtain⟨tm',c',h,hs',hf⟩:=xQ hr ph.es CE [] tm c q1 hs h (fun g hg=>by simp at hg);simp only[zb,za,zbn,zar,zaj,List.any_eq_true]at q2 q3 q4;have hes:=uj ph.es CE q1
   obtain⟨h,hrs⟩:=j5 _ (fun o ho=>by
    obtain⟨i,hi,rfl⟩:=List.mem_map.1 ho
    exact hr.kE i (hce i (q2 i hi).1)) h
   have r1:=List.contains_iff_mem.1 r1;have r3:=List.contains_iff_mem.1 r3;have r2:hA∉CH:=fun hm=>by rw[List.contains_iff_mem.2 hm]at r2;cases r2
   have r4:hB∉CH:=fun hm=>by rw[List.contains_iff_mem.2 hm]at r4;cases r4
   have r5:hA≠hB:=fun e=>by rw[e]at r5;simp at r5
   have r7:∀f∈F,f∈CF:=fun f hf=>List.contains_iff_mem.1 ((List.all_eq_true.1 r7) f hf)
   have r6:∀h'∈H,h'∈CH∨h'=hA∨h'=hB:=fun h' hh'=>by
    have:=(List.all_eq_true.1 r6) h' hh';simp only[zar,beq_iff_eq,zbn]at this;exact or_assoc.1 this
   obtain⟨a1,a2,_⟩:=Av r10;obtain⟨b1,b2,_⟩:=Av r11
   have hce':∀i∈ph.es.reverse++CE,i∈E:=fun i hi=>by
    rcases List.mem_append.1 hi with hi|hi
    ·exact (hes i (List.mem_reverse.1 hi)).1
    ·exact hce i hi
   have hfact:∀i,i∈ph.es∨i∈ph.rs->i∈ph.es.reverse++CE/\qp P ops nt tm' hp (af ops i)/\∀f∈F,lk ops i f=true->f∈CF:=fun i hi=>by
    rcases hi with hi|hi
    ·exact⟨zbo _ (List.mem_reverse.2 hi),hf i (.inr hi),(hes i hi).2⟩
    ·exact⟨zbt _ (q2 i hi).1,hrs _ (List.mem_map.2 ⟨i,hi,rfl⟩),fun f hff hl=>((q2 i hi).2 f hff).resolve_left (by simp[hl])⟩
   have hcovE:∀i∈E,i∈ph.es∨i∈ph.rs∨(∃h∈H,h∉CH/\bit (Region.before ops) i h=true)∨∃h∈CH,bit (Region.before ops) h i=true:=fun i hi=>by
    rcases q3 i hi with ((h1|h1)|⟨h1,h2,h3,h4⟩)|⟨h1,h2,h3⟩
    ·exact .inl h1
    ·exact .inr (.inl h1)
    ·exact .inr (.inr (.inl ⟨h1,h2,by simpa using h3,h4⟩))
    ·exact .inr (.inr (.inr ⟨h1,h2,h3⟩))
   have kA:∀i∈rsA,fK P (af ops i)=true:=fun i hi=>hr.kE i (hce' i (a2 i hi));have kB:∀i∈rsB,fK P (af ops i)=true:=fun i hi=>hr.kE i (hce' i (b2 i hi))
   -- the first order's run,and what it ends in
   have hA0:(fb P nt ops (af ops hA)).run call tm' hp nx (fun tm1 hp1 nx1=>(vK P nt ops hB rsA).run call tm1 hp1 nx1 (BS P nt ops hA hB rsB call tm' hp nx K))=.ok:=h;obtain⟨hp1,g1⟩:=oU r8 hA0;obtain⟨hpA,g2⟩:=uk r9 kA g1;have hB0:(fb P nt ops (af ops hB)).run call tm' hp nx (fun tm1 hp1 nx1=>(vK P nt ops hA rsB).run call tm1 hp1 nx1 (xk K tm' hpA nx))=.ok:=g2
   have afA:fO B w0 nt ι0 nx0 (BS P nt ops hA hB rsB call tm' hp nx K) Z:=by
    intro tmx hpx nxx ι2 a' w' hk hle' ha' hs2;have hk:(fb P nt ops (af ops hB)).run call tm' hp nx (fun tm1 hp1 nx1=>(vK P nt ops hA rsB).run call tm1 hp1 nx1 (xk K tmx hpx nxx))=.ok:=hk;obtain⟨hp1,hk⟩:=oU r9 hk;obtain⟨hpB,hk⟩:=uk r8 kB hk;obtain⟨_,hk⟩:=aJ hk;obtain⟨_,hk⟩:=aJ hk;obtain⟨_,hk⟩:=aJ hk;exact hn tmx hpx nxx ι2 a' w' hk hle' ha' hs2
   have afB:fO B w0 nt ι0 nx0 (xk K tm' hpA nx) Z:=by
    intro tmx hpx nxx ι2 a' w' hk hle' ha' hs2;obtain⟨e1,k1⟩:=aJ hk;obtain⟨e2,k2⟩:=aJ k1;obtain⟨e3,k3⟩:=aJ k2;have e1:=KP e1;have e2:=gC _ _ e2;have e3:Part hpA hpx:=lW _ _ e3;subst e1;subst e2;exact hn _ _ _ ι2 a' w' k3 hle' ha' ⟨xR e3 (zad _) hs2.1,fun ι' hι=>⟨(hs2.2 ι' hι).1,jz e3 (hs2.2 ι' hι).2⟩⟩
   refine .inr ⟨hA,hB,_,_,r5,afA,afB,⟨⟨ph.es,ph.rs,[],[],some hA,none⟩,xm hB rsA,ph.es.reverse++CE,CF,CH,S,tm',hp,nx,ι,β,c',rfl,r7,?_⟩,⟨⟨ph.es,ph.rs,[],[],some hB,none⟩,xm hA rsB,ph.es.reverse++CE,CF,CH,S,tm',hp,nx,ι,β,c',rfl,r7,?_⟩⟩
   ·exact⟨hs',hle,ha,hce',hch,hfact,hcovE,fun f hf=>.inl (r7 f hf),rfl,rfl,hA0,r1,r2,fun h' hh'=>(r6 h' hh').imp_right fun h=>h.imp_right fun e=>.inr (by simp[e]),fun f hf _=>r7 f hf,fun f hf=>.inl (r7 f hf),fun f hf=>by simp at hf,a1⟩
   ·exact⟨hs',hle,ha,hce',hch,hfact,hcovE,fun f hf=>.inl (r7 f hf),rfl,rfl,hB0,r3,r4,fun h' hh'=>(r6 h' hh').imp_right fun h=>by
      rcases h with e|e
      ·exact .inr (.inr (by simp[e]))
      ·exact .inl e,fun f hf _=>r7 f hf,fun f hf=>.inl (r7 f hf),fun f hf=>by simp at hf,b1⟩
theorem ri (hr:Rg P ops E F H){CE CF CH:List Nat}{i:Nat}{cv:Value}(hs:Sync P ops nt E F H CE CF CH L B S w0 tm hp nx ι β c a w)(hi:i<ops.size)(hL:¬L i)(hpre:∀e∈(af ops i).after,Region.binds .any e=true->L e.on)
  (hiH:i∉H) (hce:∀j∈CE,j∈E) (hiE:i∈E->i∈CE) {w':World} {S':Nat->Prop} {β':Nat->Nat} (hkept:Kept B w0 w') (hsub:∀k,B k->S' k) (hsat:Sat S' w' nt tm hp nx ι c w')
  (hpend:∀f∈F,L f->f∉CF->vq P ops B S (β f) (a.put (af ops i).dst cv) w (af ops f)->vq P ops B S' (β' f) (a.put (af ops i).dst cv) w' (af ops f)) (hnew:i∈F->vq P ops B S' (β' i) (a.put (af ops i).dst cv) w' (af ops i))
  (hinj:∀f∈F,∀g∈F,(f=i∨L f)->(g=i∨L g)->f∉CF->g∉CF->gV P (af ops f)=false->gV P (af ops g)=false->β' f=β' g->f=g)
  (hlink:∀t,(af ops i).dst=some t->i∈E->cv=tv c t/\t<nt):Sync P ops nt E F H CE CF CH (fun j=>j=i∨L j) B S' w0 tm hp nx ι β' c (a.put (af ops i).dst cv) w':=by
 have hicf:i∉CF:=fun h=>hL (hs.fl i h);refine⟨fun j o ho hj e he hb=>?_,fun j hj=>?_,fun j hj=>?_,fun j hj=>.inr (hs.fl j hj),fun j hj hLj=>?_,hkept,hsub,hsat,fun f hf hLf hfc=>?_,hinj,by rw[jI];exact hs.size,by rw[put_defers];exact hs.defers,fun t ht=>?_⟩
 ·rcases hj with rfl|hj
  ·rw[j6 hi]at ho;cases ho;exact .inr (hpre e he hb)
  ·exact .inr (hs.down j o ho hj e he hb)
 ·rcases hj with rfl|hj
  ·exact hi
  ·exact hs.Q0 j hj
 ·rw[<-hs.hv j hj];have:j≠i:=fun e=>hiH (e▸hj);simp[this]
 ·rcases hLj with rfl|hLj
  ·exact hiE hj
  ·exact hs.el j hj hLj
 ·rcases hLf with rfl|hLf
  ·exact hnew hf
  ·have hfi:f≠i:=fun e=>hL (e▸hLf);refine hpend f hf hLf hfc ((hs.qs f hf hLf hfc).put (hr.GV f (hr.M4 f hf)) (fun t ht hl=>?_) (fun t ht e=>?_))
   ·have hlk:=sk ht hl
    have hcase:i∈E∨i∈F:=by
     rcases hr.DM i hi with h|h|h
     ·exact .inl h.1
     ·exact .inr h.2.1
     ·exact absurd h.2.2 hiH
    exact hL (gR L hs.down f i hLf ((hr.KO f (hr.M4 f hf) i hcase).1 hlk))
   ·exact (hr.KO i hi f (.inr hf)).2 (fun e=>hfi e.symm) t e ht
 ·by_cases hd:(af ops i).dst=some t
  ·rcases hr.DM i hi with h|h|h
   ·obtain⟨h1,h2⟩:=hlink t hd h.1;rw[hd,jy (by rw[hs.size];exact h2),h1]
   ·exfalso;rcases (ht i (.inr h.2.1) hd).1 (.inl rfl)with h'|h'
    ·exact h.1 (hce i h')
    ·exact hicf h'
   ·exact absurd h.2.2 hiH
  ·rw[fV hd];refine hs.link t fun j hj hjd=>?_;have:=ht j hj hjd;have hji:j≠i:=fun e=>hd (e▸hjd);simpa [hji] using this
theorem M5 {listed:Array Bool}{i j:Nat}(h:i<listed.size):((listed.setIfInBounds i true).getD j false=true)=(j=i∨listed.getD j false=true):=by
 apply propext;simp only[zah,zdo];by_cases hj:i=j
 ·subst hj;simp[h]
 ·rw[if_neg hj];have hj':¬j=i:=fun e=>hj e.symm;simp[hj']
theorem oV {r:Option Nat}(hr:Rg P ops E F H){X:List Nat}{K:Tm->Tr AO->Pz->Rs}{nx0:Pz}{ι0:En}{ph:Ph}{rest:List Ph}{CE CF CH:List Nat}{i:Nat}(hh:xS P ops nt E F H call X K nx0 ι0 ph rest CE CF CH L B S w0 tm hp nx ι β c a w)(hops:ot P call)
  (hi:i<ops.size) (hL:¬L i) (hpre:∀e∈(af ops i).after,Region.binds .any e=true->L e.on) (hiH:i∈H) (hiX:i∉X) {Z:Act->World->Prop} {Q:Exit->Act->World->Prop} {Zn:Act->World->Prop} (hn:fO B w0 nt ι0 nx0 K Zn)
  (hZ:∀a' w',J P ops nt E F H call B w0 nx0 ι0 Zn (fun j=>j=i∨L j) a' w'->Z a' w'):wpOpIn (fw r) 0 P ops Q i Z a w:=by
 have hs:=hh.sync
 have hpreL:∀j,bit (Region.before ops) i j=true->L j:=fun j hb=>by
  have:=gR (fun k=>k=i∨L k) (fun k o ho hk e he hbi=>by
   rcases hk with rfl|hk
   ·rw[j6 hi]at ho;cases ho;exact .inr (hpre e he hbi)
   ·exact .inr (hs.down k o ho hk e he hbi)) i j (.inl rfl) hb
  rcases this with rfl|h
  ·have:=re hr.xP _ _ hb;omega
  ·exact h
 obtain⟨hrun,_⟩:=qt hr hs ph.sp CF tm hp nx ι c hh.sp (fun _ h=>h) hh.run (fun ι' hι=>(hs.sat.2 ι' hι).1) hs.link;have htail:=hh.tail;cases hph:ph.h with
 |none =>
  rw[hph]at htail;exact absurd ((hs.hv i hiH).2 (htail.2.2 i hiH)) hL
 |some h =>
  rw[hph]at htail;simp only[hph]at hrun;obtain⟨t1,t2,t3,t4,t5,t6,t7⟩:=htail
  have hih:i=h:=by
   rcases t3 i hiH with h'|h'|h'
   ·exact absurd ((hs.hv i hiH).2 h') hL
   ·exact h'
   ·exact (h'.elim (fun h'=>absurd ((hs.hv h t1).1 (hpreL h h')) t2) (fun h'=>absurd h' hiX))
  subst hih;obtain⟨tm1,hp1,nx1,ι1,S1,c1,g1,g2,g3,hs1⟩:=tf hr ph.fs CF tm hp nx ι S c hh.fs hs (fun f hf=>hpreL f (t6 f hf)) hrun
  have hsame:∀t∈(af ops i).looksAt ops,tv a t=tv c1 t:=by
   intro t ht;refine hs1.link t fun j hj hjd=>?_;have hl:=sk hjd ht;have hLj:=hpreL j ((hr.KO i hi j hj).1 hl);refine⟨fun _=>?_,fun _=>hLj⟩;rcases hj with hj|hj
   ·exact .inl (hs.el j hj hLj)
   ·exact .inr (t4 j hj hl)
  have hsel:=hr.GV i hi
  have fin:∀cv w',(∃v hp' nx' ι2,(oj P nt ops rest).run call (kK (af ops i).dst tm1 v) hp' nx' K=.ok/\nx1.num<=nx'.num/\al nx1 ι1 ι2/\Wf hp' nx'/\∀ι',al nx' ι2 ι'->Core S1 w ι' hp' w'/\cv=ak ι' v)->(∀t,(af ops i).dst=some t->t<nt)->Z (a.put (af ops i).dst cv) w':=by
   rintro cv w' ⟨v,hp',nx',ι2,k1,k2,k3,k4,k5⟩ hd
   refine hZ _ _ ?_;have hkept1:Kept S1 w w':=(k5 ι2 (al.refl _ _)).1.below
   have hs2:Sync P ops nt E F H CE (ph.fs.reverse++CF) (i::CH) (fun j=>j=i∨L j) B S1 w0 (kK (af ops i).dst tm1 v) hp' nx' ι2 β (c1.put (af ops i).dst cv) (a.put (af ops i).dst cv) w':=by
    refine⟨fun j o ho hj e he hb=>?_,fun j hj=>?_,fun j hj=>?_,fun j hj=>.inr (hs1.fl j hj),fun j hj hLj=>?_,hs1.kept.trans (hkept1.mono hs1.sub),hs1.sub,⟨k4,fun ι' hι=>⟨kZ (hs1.sat.2 ι' (k3.trans hι k2)).1 hd (k5 ι' hι).2,sr (w1:=w') (k5 ι' hι).1⟩⟩,
     fun f hf hLf hfc=>?_,fun f hf g hg lf lg=>?_,by rw[jI];exact hs.size,by rw[put_defers,put_defers];exact hs1.defers,fun t ht=>?_⟩
    ·rcases hj with rfl|hj
     ·rw[j6 hi]at ho;cases ho;exact .inr (hpre e he hb)
     ·exact .inr (hs.down j o ho hj e he hb)
    ·rcases hj with rfl|hj
     ·exact hi
     ·exact hs.Q0 j hj
    ·simp only[List.mem_cons];rw[hs.hv j hj]
    ·rcases hLj with rfl|hLj
     ·exact absurd hj (hr.he hiH).1
     ·exact hs.el j hj hLj
    ·have hfi:f≠i:=fun e=>(hr.he hiH).2 (e▸hf);have hLf:L f:=hLf.resolve_left hfi;refine ((hs1.qs f hf hLf hfc).put (hr.GV f (hr.M4 f hf)) (fun t ht hl=>?_) (fun t ht e=>(hr.KO i hi f (.inr hf)).2 (fun e=>hfi e.symm) t e ht)).world (fun _ h=>h) (fun h=>hkept1.block _ h);have hlk:=sk ht hl;rcases t5 f hf with h'|h'|h'
     ·exact hfc h'
     ·rw[hlk]at h';cases h'
     ·exact hL (gR L hs.down f i hLf h')
    ·have hfi:f≠i:=fun e=>(hr.he hiH).2 (e▸hf);have hgi:g≠i:=fun e=>(hr.he hiH).2 (e▸hg);exact hs1.inj f hf g hg (lf.resolve_left hfi) (lg.resolve_left hgi)
    ·by_cases hdt:(af ops i).dst=some t
     ·rw[hdt,jy (by rw[hs.size];exact hd t hdt),jy (by rw[(hs1.sat.2 ι1 (al.refl _ _)).1.size];exact hd t hdt)]
     ·rw[fV hdt,fV hdt];refine hs1.link t fun j hj hjd=>?_;have:=ht j hj hjd;have hji:j≠i:=fun e=>hdt (e▸hjd);simpa [hji] using this
   cases rest with
   |nil=>cases t7
   |cons ph' rest' =>
    exact wo hr (nx0:=nx0) (ι0:=ι0) hn t7 hs2 (by have:=hh.le;omega) (hh.bG.trans (g3.trans k3 g2) hh.le) hh.ce (fun j hj=>by
     rcases List.mem_cons.1 hj with rfl|hj
     ·exact hiH
     ·exact hh.ch j hj) k1
  obtain⟨hd,hgo⟩:=Ca hops g1 hs1.sat (G:=fun cv w'=>∃v hp' nx' ι2,(oj P nt ops rest).run call (kK (af ops i).dst tm1 v) hp' nx' K=.ok/\nx1.num<=nx'.num/\al nx1 ι1 ι2/\Wf hp' nx'/\∀ι',al nx' ι2 ι'->Core S1 w ι' hp' w'/\cv=ak ι' v)
   (fun cv w' v hp' nx' ι2 r1 r2 r3 r4 r5=>⟨v,hp',nx',ι2,r1,r2,r3,r4,r5⟩)
  unfold wpOpIn;rw[j6 hi];simp only;rw[nz hsame];rcases hgo with ⟨hw,hg⟩|⟨hw,hg⟩
  ·rw[if_pos hw];rw[<-gQ hsel hsame]at hg;exact hg.wp fun cv w' h=>fin cv w' h hd
  ·rw[if_neg (by rw[hw];decide)];exact⟨fun _ _=>trivial,fin undef w hg hd⟩
theorem HP (hr:Rg P ops E F H){X:List Nat}{K:Tm->Tr AO->Pz->Rs}{nx0:Pz}{ι0:En}{ph:Ph}{rest:List Ph}{CE CF CH:List Nat}(hh:xS P ops nt E F H call X K nx0 ι0 ph rest CE CF CH L B S w0 tm hp nx ι β c a w)(hall:∀i,i<ops.size->L i){Z:Act->World->Prop}(hn:fO B w0 nt ι0 nx0 K Z):Z a w:=by
 have hs:=hh.sync;obtain⟨hrun,_⟩:=qt hr hs ph.sp CF tm hp nx ι c hh.sp (fun _ h=>h) hh.run (fun ι' hι=>(hs.sat.2 ι' hι).1) hs.link;have htail:=hh.tail;cases hph:ph.h with
 |some h =>
  rw[hph]at htail;exact absurd ((hs.hv h htail.1).1 (hall h (hr.Vh h htail.1))) htail.2.1
 |none =>
  rw[hph]at htail;simp only[hph]at hrun;obtain⟨t1,t2,t3⟩:=htail
  obtain⟨tm1,hp1,nx1,ι1,S1,c1,g1,g2,g3,hs1⟩:=tf hr ph.fs CF tm hp nx ι S c hh.fs hs (fun f hf=>hall f (hr.M4 f (by
   have:=hh.fs
   have key:∀(fs CF:List Nat),sL ops E F CE fs CF=true->∀f∈fs,f∈F:=by
    intro fs
    induction fs with
    |nil=>intro CF _ f hf;simp at hf
    |cons g fs ih =>
     intro CF hq f hf;simp only[sL,za,zbn]at hq;rcases List.mem_cons.1 hf with rfl|hf
     ·exact hq.1.1.1.1
     ·exact ih _ hq.2 f hf
   exact key _ _ this f hf))) hrun
  have hac:a=c1:=by
   obtain⟨ta,da⟩:=a;obtain⟨tc,dc⟩:=c1;have e1:ta.size=nt:=hs.size;have e2:=(hs1.sat.2 ι1 (al.refl _ _)).1;have e3:tc.size=nt:=e2.size;have e4:da=dc:=hs1.defers
   have:ta=tc:=by
    apply Array.ext
    ·rw[e1,e3]
    ·intro t h1 h2
     have:=hs1.link t fun i hi hid=>by
      rcases hi with hi|hi
      ·exact⟨fun _=>.inl (t1 i hi),fun _=>hall i (hr.QZ i hi)⟩
      ·exact⟨fun _=>.inr (t2 i hi),fun _=>hall i (hr.M4 i hi)⟩
     simp only[tv,zah,zbe h1,zbe h2,zca]at this;exact this
   rw[this,e4]
  refine hn tm1 hp1 nx1 ι1 a w g1 (by have:=hh.le;omega) (hh.bG.trans g3 hh.le) ⟨hs1.sat.1,fun ι' hι=>⟨hac▸(hs1.sat.2 ι' hι).1,?_⟩⟩;have hc:=(hs1.sat.2 ι' hι).2;exact⟨hs1.kept,fun k hk=>hc.room k (hs1.sub k hk),hc.obj,fun id o h1 h2 h3=>hc.base id o h1 h2 (hs1.sub _ h3),hc.sep,hc.e9⟩
theorem FX (h:Core S w ι hp w)(y:Obj):Core (fun k=>S k∨k=w.heap.size) (w.alloc y) ι hp (w.alloc y):=by
 have hlt:=xD h;refine⟨Kept.refl _ _,fun k hk=>?_,fun i o hi=>?_,fun i o hi ho hk=>?_,h.sep,h.e9⟩
 ·have hsz:(w.alloc y).heap.size=w.heap.size+1:=by simp
  rcases hk with hk|rfl
  ·have:=h.room k hk;omega
  ·omega
 ·exact (h.obj i o hi).bE (fun x=>x) fun ho=>Below.heap_alloc _ _ _ (hlt i o hi ho)
 ·rcases hk with hk|hk
  ·exact h.base i o hi ho hk
  ·have:=hlt i o hi ho;omega
theorem M6 (hr:Rg P ops E F H){CE CF CH:List Nat}{i:Nat}(hs:Sync P ops nt E F H CE CF CH L B S w0 tm hp nx ι β c a w)(hlt:i<ops.size)(hpre:∀e∈(af ops i).after,Region.binds .any e=true->L e.on):∀j,bit (Region.before ops) i j=true->L j:=fun j hb=>by
 have:=gR (fun k=>k=i∨L k) (fun k o' ho' hk e he hbi=>by
  rcases hk with hk|hk
  ·subst hk;have e0:=j6 hlt;rw[ho']at e0;have e1:=Option.some.inj e0;subst e1;exact .inr (hpre e he hbi)
  ·exact .inr (hs.down k o' ho' hk e he hbi)) i j (.inl rfl) hb
 rcases this with rfl|h
 ·have:=re hr.xP _ _ hb;omega
 ·exact h
theorem Cd (hr:Rg P ops E F H){X:List Nat}{K:Tm->Tr AO->Pz->Rs}{nx0:Pz}{ι0:En}{ph:Ph}{rest:List Ph}{CE CF CH:List Nat}{i:Nat}(hh:xS P ops nt E F H call X K nx0 ι0 ph rest CE CF CH L B S w0 tm hp nx ι β c a w)
  (hlt:i<ops.size) (hLi:¬L i) (hpre:∀e∈(af ops i).after,Region.binds .any e=true->L e.on) (hE:i∈E) (hnF:i∉F) (hnH:i∉H) :
  ∃cv,Yv P ops (af ops i) a w cv/\xS P ops nt E F H call X K nx0 ι0 ph rest CE CF CH (fun j=>j=i∨L j) B S w0 tm hp nx ι β c (a.put (af ops i).dst cv) w:=by
 have hs:=hh.sync;have hpreL:=M6 hr hs hlt hpre
 have hin:i∈ph.es∨i∈ph.rs:=by
  rcases hh.KQ i hE with h|h|⟨h,h2,h3,h4⟩|⟨h,h2,h3⟩
  ·exact .inl h
  ·exact .inr h
  ·exact absurd ((hs.hv h h2).1 (hpreL h h4)) h3
  ·exact absurd (gR _ hs.down h i ((hs.hv h (hh.ch h h2)).2 h2) h3) hLi
 obtain⟨hce,⟨v,hv1,hv2⟩,hff⟩:=hh.fact i hin;obtain⟨tc,cc⟩:=hs.sat.2 ι (al.refl _ _)
 have hsame:∀t∈(af ops i).looksAt ops,tv c t=tv a t:=by
  intro t ht;refine (hs.link t fun j hj hjd=>?_).symm;have hl:=sk hjd ht;have hLj:=hpreL j ((hr.KO i hlt j hj).1 hl);refine⟨fun _=>?_,fun _=>hLj⟩;rcases hj with hj|hj
  ·exact .inl (hs.el j hj hLj)
  ·exact .inr (hff j hj hl)
 have hy:=(hv2 _ _ ι c w tc cc).same (hr.GV i hlt) hsame;refine⟨_,hy,?_⟩
 refine⟨ri hr hs hlt hLi hpre hnH hh.ce (fun _=>hce) hs.kept hs.sub hs.sat (fun f _ _ _ h=>h) (fun h=>absurd h hnF) (fun f hf g hg lf lg=>hs.inj f hf g hg (lf.resolve_left fun e=>hnF (e▸hf)) (lg.resolve_left fun e=>hnF (e▸hg))) (fun t ht _=>?_),
  hh.le,hh.bG,hh.ce,hh.ch,hh.fact,hh.KQ,hh.KS,hh.sp,hh.fs,hh.run,hh.tail⟩
 obtain⟨h2,h3⟩:=hv1 t ht;refine⟨?_,h3⟩;have:=tc.val t;rw[h2]at this;exact this.symm
theorem HQ {r:Option Nat}(hr:Rg P ops E F H)(hops:ot P call){K:Tm->Tr AO->Pz->Rs}{nx0:Pz}{ι0:En}{Q:Exit->Act->World->Prop}{Z Zn:Act->World->Prop}(hn:fO B w0 nt ι0 nx0 K Zn){ph:Ph}{rest:List Ph}{CE CF CH:List Nat}{i:Nat}
  (hh:xS P ops nt E F H call [] K nx0 ι0 ph rest CE CF CH L B S w0 tm hp nx ι β c a w) (hlt:i<ops.size) (hLi:¬L i) (hpre:∀e∈(af ops i).after,Region.binds .any e=true->L e.on) (ho:ops[i]?=some (af ops i))
  (next:∀a' w',J P ops nt E F H call B w0 nx0 ι0 Zn (fun j=>j=i∨L j) a' w'->Z a' w'):wpOpIn (fw r) 0 P ops Q i Z a w:=by
  have hs:=hh.sync;have hpreL:=M6 hr hs hlt hpre;rcases hr.DM i hlt with ⟨hE,hnF,hnH⟩|⟨hnE,hF,hnH⟩|⟨hnE,hnF,hH⟩
  ·-- early
   obtain⟨cv,hy,h1⟩:=Cd hr hh hlt hLi hpre hE hnF hnH;exact hy.wp ho (next _ _ (.inl ⟨K,hn,ph,rest,CE,CF,CH,S,tm,hp,nx,ι,β,c,h1⟩))
  ·-- floating
   have hin:i∈ph.sp:=by
    rcases hh.KS i hF with h|h|⟨h,h2,h3,h4⟩
    ·exact absurd (hs.fl i h) hLi
    ·exact h
    ·exact absurd ((hs.hv h h2).1 (hpreL h h4)) h3
   obtain⟨_,hres⟩:=qt hr hs ph.sp CF tm hp nx ι c hh.sp (fun _ h=>h) hh.run (fun ι' hι=>(hs.sat.2 ι' hι).1) hs.link;obtain⟨hres,hd⟩:=hres i hin hpreL;have hself:∀cv,∀t∈(af ops i).looksAt ops,tv a t=tv (a.put (af ops i).dst cv) t:=fun cv t ht=>(fV fun e=>hr.self (.inr hF) e ht).symm
   have hval:∀cv d,(af ops i).dst=some d->tv (a.put (af ops i).dst cv) d=cv:=fun cv d hdd=>by
    rw[hdd];exact jy (by rw[hs.size];exact hd d hdd)
   rcases hres with ⟨hk,cv,hy⟩|⟨hk,hg,d,hdd,hy⟩
   ·refine (hy w).wp ho (next _ _ (.inl ⟨K,hn,ph,rest,CE,CF,CH,S,tm,hp,nx,ι,β,c,?_⟩))
    refine⟨ri hr hs hlt hLi hpre hnH hh.ce (fun h=>absurd h hnE) hs.kept hs.sub hs.sat (fun f _ _ _ h=>h) (fun _=>.inl ⟨hk,cv,fun w1=>(hy w1).same (hr.GV i hlt) (hself cv),fun d hdd=>hval cv d hdd⟩) (fun f hf g hg lf lg nf ng kf kg=>?_) (fun t ht h=>absurd h hnE),
     hh.le,hh.bG,hh.ce,hh.ch,hh.fact,hh.KQ,hh.KS,hh.sp,hh.fs,hh.run,hh.tail⟩
    exact hs.inj f hf g hg (lf.resolve_left fun e=>by rw[e,hk]at kf;cases kf) (lg.resolve_left fun e=>by rw[e,hk]at kg;cases kg) nf ng kf kg
   ·obtain⟨cv,y,hrun⟩:=hy w.heap.size;have hroom:∀k,S k->k<w.heap.size:=(hs.sat.2 ι (al.refl _ _)).2.room;unfold wpOpIn;rw[ho];simp only;rw[if_pos (by simp[Region.wanted,hg])];refine dh.wp (G:=fun cv' w'=>cv'=cv/\w'=w.alloc y) (.inl ⟨cv,_,.inl (hrun w rfl),rfl,rfl⟩) fun cv' w' ⟨e1,e2⟩=>?_;rw[e1,e2];refine next _ _ (.inl ⟨K,hn,ph,rest,CE,CF,CH,(fun k=>S k∨k=w.heap.size),tm,hp,nx,ι,(fun j=>if j=i then w.heap.size else β j),c,?_⟩)
    refine⟨ri hr hs hlt hLi hpre hnH hh.ce (fun h=>absurd h hnE) (hs.kept.alloc (fun k hk=>hroom k (hs.sub k hk)) y) (fun k hk=>.inl (hs.sub k hk)) ⟨hs.sat.1,fun ι' hι=>⟨(hs.sat.2 ι' hι).1,FX (hs.sat.2 ι' hι).2 y⟩⟩ (fun f hf hLf hfc hp'=>?_) (fun _=>?_) (fun f hf g hg lf lg nf ng kf kg=>?_) (fun t ht h=>absurd h hnE),
     hh.le,hh.bG,hh.ce,hh.ch,hh.fact,hh.KQ,hh.KS,hh.sp,hh.fs,hh.run,hh.tail⟩
    ·have hfi:f≠i:=fun e=>hLi (e▸hLf);simp only[if_neg hfi];exact hp'.world (fun k hk=>.inl hk) (fun h=>Below.heap_alloc _ _ _ (hroom _ h))
    ·simp only[if_true];refine .inr ⟨hk,y,d,.inr rfl,fun h=>?_,bO _ _,hdd,fun w1 hw1=>?_⟩
     ·have:=hroom _ (hs.sub _ h);omega
     ·rw[<-gQ (hr.GV i hlt) (hself cv),hval cv d hdd];exact hrun w1 hw1
    ·have pb:∀f∈F,L f->f∉CF->gV P (af ops f)=false->β f<w.heap.size:=by
       intro f hf lf nf kf;rcases hs.qs f hf lf nf with ⟨p0,_⟩|⟨_,_,_,p1,_⟩
       ·rw[kf]at p0;cases p0
       ·exact hroom _ p1
     by_cases hfi:f=i
     ·by_cases hgi:g=i
      ·exact fun _=>hfi.trans hgi.symm
      ·simp only[if_pos hfi,if_neg hgi];intro e;have:=pb g hg (lg.resolve_left hgi) ng kg;omega
     ·by_cases hgi:g=i
      ·simp only[if_neg hfi,if_pos hgi];intro e;have:=pb f hf (lf.resolve_left hfi) nf kf;omega
      ·simp only[if_neg hfi,if_neg hgi];exact hs.inj f hf g hg (lf.resolve_left hfi) (lg.resolve_left hgi) nf ng kf kg
  ·-- Vi
   exact oV hr hh hops hlt hLi hpre hH (by simp) hn next
theorem OD {r:Option Nat}(hr:Rg P ops E F H)(hops:ot P call){nx0:Pz}{ι0:En}{Q:Exit->Act->World->Prop}:∀(fuel:Nat)(listed:Array Bool)(a:Act)(w:World),listed.size=ops.size->listed.toList.count false<=fuel ->
  J P ops nt E F H call B w0 nx0 ι0 (Q .normal) (fun i=>listed.getD i false=true) a w->wpAnyIn (fw r) 0 P .any ops Q fuel listed a w:=by
 have endq:∀(listed:Array Bool) (a:Act) (w:World),listed.size=ops.size->J P ops nt E F H call B w0 nx0 ι0 (Q .normal) (fun i=>listed.getD i false=true) a w->Region.ready .any ops listed=[]->Q .normal a w:=by
  intro listed a w hsz hj hrd;have hedge:=hr.xP
  have all:∀i,i<ops.size->listed.getD i false=true:=by
   intro i hi
   induction i using Nat.strongRecOn with
   |ind i ih =>
    rcases Bool.eq_false_or_eq_true (listed.getD i false)with h|h
    ·exact h
    ·exfalso
     have hmem:i∈Region.ready .any ops listed:=by
      rw[mem_ready];refine⟨?_,af ops i,j6 hi,fun e he hb=>ih e.on (hr.xP i _ (j6 hi) e he hb) (by have:=hr.xP i _ (j6 hi) e he hb;omega)⟩;rw[zah,zbe (by omega)]at h ⊢;exact h
     rw[hrd]at hmem;simp at hmem
  rcases hj with ⟨K,hn,ph,rest,CE,CF,CH,S,tm,hp,nx,ι,β,c,hh⟩|⟨hA,hB,KA,KB,hne,afA,afB,⟨ph,rest,CE,CF,CH,S,tm,hp,nx,ι,β,c,_,_,hh⟩,_⟩
  ·exact HP hr hh all hn
  ·exact HP hr hh all afA
 intro fuel
 induction fuel with
 |zero =>
  intro listed a w hsz hc hh
  have hrd:Region.ready .any ops listed=[]:=by
   apply List.eq_nil_iff_forall_not_mem.2;intro j hj;rw[mem_ready]at hj;obtain⟨h1,_⟩:=hj
   have hlt:j<listed.size:=by
    rcases zdp j listed.size with h|h
    ·exact h
    ·rw[zah,zed h]at h1;cases h1
   have:false∈listed.toList:=by
    rw[zah,zbe hlt]at h1;simp only[zca]at h1;rw[<-h1];exact Array.getElem_mem_toList hlt
   have:=List.count_pos_iff.2 this;omega
  exact⟨hrd,endq listed a w hsz hh hrd⟩
 |succ fuel ih =>
  intro listed a w hsz hc hh;refine⟨endq listed a w hsz hh,fun i hi=>?_⟩;rw[mem_ready]at hi;obtain⟨h1,o,ho,hpre⟩:=hi;have hlt:i<ops.size:=(Array.getElem?_eq_some_iff.1 ho).1;have hio:o=af ops i:=by have:=j6 hlt;rw[ho]at this;exact Option.some.inj this
  subst hio;have hlt':i<listed.size:=by omega
  have hLi:¬listed.getD i false=true:=by
   rw[zah,zbe hlt']at h1 ⊢;simp only[zca]at h1 ⊢;rw[h1];decide
  have hcount:(listed.setIfInBounds i true).toList.count false<=fuel:=by
   have hf:listed.toList[i]'(by simpa using hlt')=false:=by
    rw[zah,zbe hlt']at h1;simpa using h1
   have h2:(listed.toList.set i true).count false=listed.toList.count false-1:=by
    rw[List.count_set (by simpa using hlt')];simp[hf]
   have h3:0<listed.toList.count false:=List.count_pos_iff.2 (by rw[<-hf];exact zdb _);rw[Array.toList_setIfInBounds,h2];omega
  have hsz':(listed.setIfInBounds i true).size=ops.size:=by simpa using hsz
  have next:∀a' w',J P ops nt E F H call B w0 nx0 ι0 (Q .normal) (fun j=>j=i∨listed.getD j false=true) a' w'->wpAnyIn (fw r) 0 P .any ops Q fuel (listed.setIfInBounds i true) a' w':=by
   intro a' w' h;refine ih _ a' w' hsz' hcount ?_;have e:(fun j=>(listed.setIfInBounds i true).getD j false=true)=fun j=>j=i∨listed.getD j false=true:=funext fun j=>M5 hlt';rw[e];exact h
  rcases hh with ⟨K,hn,ph,rest,CE,CF,CH,S,tm,hp,nx,ι,β,c,hh⟩|⟨hA,hB,KA,KB,hne,afA,afB,⟨phA,restA,CEA,CFA,CHA,SA,tmA,hpA,nxA,ιA,βA,cA,eA,fA,hhA⟩,⟨Qu,restB,CEB,CFB,CHB,SB,tmB,hpB,nxB,ιB,βB,cB,eB,fB,hhB⟩⟩
  ·exact HQ hr hops hn hh hlt hLi hpre ho next
  ·rcases hr.DM i hlt with ⟨hE,hnF,hnH⟩|⟨hnE,hF,hnH⟩|⟨hnE,hnF,hH⟩
   ·obtain⟨cv,hy,h1⟩:=Cd hr hhA hlt hLi hpre hE hnF hnH;obtain⟨cv',hy',h2⟩:=Cd hr hhB hlt hLi hpre hE hnF hnH;have e:=hy.Oz hy';subst e;exact hy.wp ho (next _ _ (.inr ⟨hA,hB,KA,KB,hne,afA,afB,⟨_,_,_,_,_,_,_,_,_,_,_,_,eA,fA,h1⟩,⟨_,_,_,_,_,_,_,_,_,_,_,_,eB,fB,h2⟩⟩))
   ·exact absurd (hhA.sync.fl i (fA i hF)) hLi
   ·by_cases hx:i=hB
    ·refine oV hr hhB hops hlt hLi hpre hH (by rw[hx];simpa using fun e=>hne e.symm) afB next
    ·exact oV hr hhA hops hlt hLi hpre hH (by simpa using hx) afA next
theorem DN (hm:P.follows .mixedOrders=true)(hops:ot P call)(nt:Nat):B2 P call nt:=by
 intro id ops plan tm hp nx K hg h r B w0 w ι a hs Q hn;unfold tH at hg;cases plan with
 |nil=>cases h
 |cons ph rest =>
  have hg:BU P ops (ph::rest)=true:=by simpa using hg
  unfold BU at hg;simp only[za,zb,List.mem_range,zar,zaj,decide_eq_true_eq,zbn]at hg;obtain⟨⟨⟨⟨⟨⟨⟨⟨⟨h1,h2⟩,h3⟩,h4⟩,h5⟩,h6⟩,h7⟩,h8⟩,h9⟩,h10⟩:=hg
  have hr:Rg P ops ((ph::rest).flatMap (·.es)) ((ph::rest).flatMap (·.fs)) ((ph::rest).flatMap Om):=by
   refine⟨fun i hi=>?_,h2,h3,h4,fun i o ho e he hb=>?_,h6,h7,h8,fun i hi j hj=>?_⟩
   ·have:=h1 i hi;simp only[<-Bool.not_eq_true,zbn]at this;rcases this with (⟨⟨p1,p2⟩,p3⟩|⟨⟨p1,p2⟩,p3⟩)|⟨⟨p1,p2⟩,p3⟩
    ·exact .inl ⟨p1,p2,p3⟩
    ·exact .inr (.inl ⟨p1,p2,p3⟩)
    ·exact .inr (.inr ⟨p1,p2,p3⟩)
   ·have hi:i<ops.size:=(Array.getElem?_eq_some_iff.1 ho).1;have hio:=j6 hi;rw[ho]at hio;have:=Option.some.inj hio;subst this;exact (h5 i hi e (by simpa using he)).resolve_left (by rw[hb];decide)
   ·have:=h9 i hi j (List.mem_append.2 hj);refine⟨fun hl=>this.1.resolve_left (by rw[hl];decide),fun hne d hd hd'=>?_⟩;rcases this.2 with (h'|h')|h'
    ·exact hne (by simpa using h')
    ·rw[hd]at h';cases h'
    ·rw[hd,hd']at h';simp at h'
  refine wpIn_region_any hm ?_
  have hs0:Sync P ops nt ((ph::rest).flatMap (·.es)) ((ph::rest).flatMap (·.fs)) ((ph::rest).flatMap Om) [] [] [] (fun i=>(Array.replicate ops.size false).getD i false=true) B B w0 tm hp nx ι (fun _=>0) a a w.drew:=by
   have no:∀i,¬(Array.replicate ops.size false).getD i false=true:=by
    intro i hi;rw[zah,zdw]at hi;split at hi<;>cases hi
   obtain⟨t0,c0⟩:=hs.2 ι (al.refl _ _)
   exact⟨fun i o _ hi=>absurd hi (no i),fun i hi=>absurd hi (no i),fun i _=>⟨fun hi=>absurd hi (no i),fun hi=>by simp at hi⟩,fun i hi=>by simp at hi,fun i _ hi=>absurd hi (no i),c0.below.drew,fun k hk=>hk,
    ⟨hs.1,fun ι' hι=>⟨(hs.2 ι' hι).1,sr (w1:=w.drew) (iy (hs.2 ι' hι).2)⟩⟩,fun f _ hf=>absurd hf (no f),fun f _ g _ hf=>absurd hf (no f),t0.size,rfl,fun t _=>rfl⟩
  exact OD hr hops ops.size _ a w.drew (by simp) (by simp) (wo hr (nx0:=nx) (ι0:=ι) hn h10 hs0 (zad _) (al.refl _ _) (fun i hi=>by simp at hi) (fun i hi=>by simp at hi) h)
end
end Go.aI
namespace Go.aI
open Go.RowKit
section
variable {P:Program}
theorem al.le {nx nx':Pz}{ι ι':En}(h:al nx' ι ι')(hle:nx.num<=nx'.num):al nx ι ι':=fun id hid=>h id (zaw hid hle)
def Tu (P:Program)(f:Nat)(args:List AV)(pre:Tr AO)(nx:Pz)(v:AV)(post:Tr AO)(nx':Pz):Prop :=
 ∀B w0 w ι (cargs:Array Value),Wf pre nx->(∀ι',al nx ι ι'->Core B w0 ι' pre w/\cargs=(ao ι' args).toArray) ->
  dh P (callFunc f cargs) w fun cv w'=>∃ι2,Wf post nx'/\nx.num<=nx'.num/\al nx ι ι2/\∀ι',al nx' ι2 ι'->Core B w0 ι' post w'/\cv=ak ι' v
theorem qv (p:Pz):mq p=p.num:=by
 induction p with
 |h=>rfl
 |o p ih=>show 2*mq p=2*p.num;rw[ih]
 |i p ih=>show 2*mq p+1=2*p.num+1;rw[ih]
noncomputable def Q1 (v:AV)(post:Tr AO)(nx':Pz)(v':AV)(hp':Tr AO)(nx2:Pz):Rs :=
 bV (sK v v') (bV (Nat.ble (mq nx2) (mq nx')) (bV (qU post hp') .ok (.bad 242)) (.bad 241)) (.bad 240)
theorem OE {call:bP}(hcall:q8 P call){f:Nat}{args:List AV}{pre post:Tr AO}{nx nx':Pz}{v:AV}(h:call.run f args pre nx (Q1 v post nx')=.ok):Tu P f args pre nx v post nx':=by
 intro B w0 w ι cargs hw hc;refine hcall.1 f args pre nx _ h B w0 w ι cargs hw hc _ (fun v' hp' nx2 ι2 cv w' hk hw' hle ha hcc=>?_);obtain⟨h1,hk⟩:=aJ hk;obtain⟨h2,hk⟩:=aJ hk;obtain⟨h3,hk⟩:=aJ hk;have h1:=oS _ _ h1;have h2:=aK h2;rw[qv,qv]at h2;have h3:Part post hp':=lW _ _ h3;subst h1;exact⟨ι2,xR h3 h2 hw',zam hle h2,ha,fun ι' hι=>⟨jz h3 (hcc ι' (hι.le h2)).1,(hcc ι' (hι.le h2)).2⟩⟩
def j7:AO->Bool
 |.arr _ _ _ _=>true
 |.map _ _=>true
 |_=>false
noncomputable def wq (t:Tr AO)(id:Pz)(r:Rs):Rs:=match t.get id with|none=>r|some _=>.bad 243
noncomputable def HR (pre hp:Tr AO)(ids:List Pz):Tr AO->(Tr AO->Rs)->Rs :=
 List.rec (motive:=fun _=>Tr AO->(Tr AO->Rs)->Rs) (fun post k=>k post)
  (fun id _ ih post k=>hp.gw id (.bad 244) fun o=>bV (j7 o) (wq pre id (wq post id (post.c9 id o fun post=>ih post k))) (.bad 245)) ids
structure bX where
 args:List AV
 pre:Tr AO
 nx:Pz
 v:AV
 post:Tr AO
 nx':Pz
 bE:List Pz
def Ce:AV->Bool
 |.bool _=>true
 |.int _ _=>true
 |.str _ _=>true
 |_=>false
theorem FY {v:AV}(h:Ce v=true)(ι ι':En):ak ι v=ak ι' v:=by
 cases v<;>simp[Ce]at h<;>simp[ak]
def T0:Tr AO->Bool
 |.e=>true
 |_=>false
theorem OG {t:Tr AO}(h:T0 t=true):t=.e:=by cases t<;>simp[T0]at h;rfl
theorem qw {B:Nat->Prop}{w0 w:World}{ι:En}(h:Core B w0 ι .e w)(ι':En):Core B w0 ι' .e w:=by
 refine⟨h.below,h.room,?_,?_,?_,?_⟩
 ·intro id o hid;rw[Tr.fD]at hid;cases hid
 ·intro id o hid;rw[Tr.fD]at hid;cases hid
 ·intro id id' o o' _ hid;rw[Tr.fD]at hid;cases hid
 ·intro id id' f ep es n el c f' ep' tp' es' n' el' c' _ hid;rw[Tr.fD]at hid;cases hid
noncomputable def HS (m:bX)(args:List AV)(hp:Tr AO)(nx:Pz)(k:AV->Tr AO->Pz->Rs)(z:Rs):Rs :=
 bV (tF m.args args) (bV (Nat.ble (mq nx) (mq m.nx)) (bV (qU m.pre hp) (HR m.pre hp m.bE m.post fun hp'=>bV (T0 m.post&&Ce m.v) (k m.v hp' nx) (k m.v hp' m.nx')) z) z) z
noncomputable def Cg (ms:List bX)(args:List AV)(hp:Tr AO)(nx:Pz)(k:AV->Tr AO->Pz->Rs)(z:Rs):Rs :=
 List.rec (motive:=fun _=>Rs) z (fun m _ ih=>HS m args hp nx k ih) ms
theorem Aw {t:Tr AO}{id:Pz}{r:Rs}(h:wq t id r=.ok):t.get id=none/\r=.ok:=by
 unfold wq at h;cases hg:t.get id with
 |none=>rw[hg]at h;exact⟨rfl,h⟩
 |some o=>rw[hg]at h;cases h
theorem Ax {pre hp:Tr AO}:∀(ids:List Pz)(post:Tr AO)(k:Tr AO->Rs),HR pre hp ids post k=.ok ->
  ∃hp',k hp'=.ok/\(∀id,id∈ids->∃o,hp.get id=some o/\j7 o=true/\pre.get id=none/\post.get id=none/\hp'.get id=some o)/\∀id,id∉ids->hp'.get id=post.get id
 | [],post,k,h=>⟨post,h,fun id hid=>by simp at hid,fun _ _=>rfl⟩
 |id::ids,post,k,h=>by
  have h:(hp.gw id (.bad 244) fun o=>bV (j7 o) (wq pre id (wq post id (post.c9 id o fun post=>HR pre hp ids post k))) (.bad 245))=.ok:=h;obtain⟨o,ho,h⟩:=dt h;obtain⟨h1,h⟩:=aJ h;obtain⟨h2,h⟩:=Aw h;obtain⟨h3,h⟩:=Aw h;rw[Tr.cz]at h;obtain⟨hp',hk,g1,g2⟩:=Ax ids _ k h
  have hid:id∉ids:=fun hm=>by
   obtain⟨_,_,_,_,g,_⟩:=g1 id hm;rw[Tr.br]at g;cases g
  refine⟨hp',hk,fun j hj=>?_,fun j hj=>?_⟩
  ·rcases List.mem_cons.1 hj with rfl|hj
   ·exact⟨o,ho,h1,h2,h3,by rw[g2 _ hid,Tr.br]⟩
   ·obtain⟨o',a1,a2,a3,a4,a5⟩:=g1 j hj;have hne:j≠id:=fun e=>hid (e▸hj);rw[Tr.cI hne]at a4;exact⟨o',a1,a2,a3,a4,a5⟩
  ·simp only[List.mem_cons,not_or]at hj;rw[g2 j hj.2,Tr.cI hj.1]
theorem la {o:AO}(h:j7 o=true)(hp:Tr AO):own hp o/\iu o=none/\(∀e s,o≠.dJ e s):=by
 cases o<;>simp[j7]at h<;>exact⟨trivial,rfl,fun _ _=>by simp⟩
theorem HU {o:AO}(h:j7 o=true){ι:En}{hp:Tr AO}{w:World}{id:Pz}(ho:ji ι hp w id o):ι.aS id<w.heap.size:=by
 cases o<;>simp[j7]at h
 ·obtain⟨C,fz,h1,_⟩:=ho;exact (Array.getElem?_eq_some_iff.1 h1).1
 ·obtain⟨E,h1,_⟩:=ho;exact (Array.getElem?_eq_some_iff.1 h1).1
theorem wx {B:Nat->Prop}{w0 w w':World}{ι ι':En}{nx nx1:Pz}{hp pre post hp':Tr AO}{ids:List Pz}(hw:Wf hp nx)(hle:nx.num<=nx1.num)
  (g1:∀id,id∈ids->∃o,hp.get id=some o/\j7 o=true/\pre.get id=none/\post.get id=none/\hp'.get id=some o) (g2:∀id,id∉ids->hp'.get id=post.get id)
  (hag:al nx ι ι') (hc:Core B w0 ι' hp w) (hn:Core (fun k=>B k∨∃id,id∈ids/\ι.aS id=k) w ι' post w'):Core B w0 ι' hp' w':=by
 have hblk:∀id,id∈ids->ι'.aS id=ι.aS id:=fun id hid=>by
  obtain⟨o,a1,_⟩:=g1 id hid;exact (hag id (hw.lt id o a1)).1
 have hliv:∀f ep,live hp' f ep->live post f ep:=by
  rintro f ep ⟨s,hf⟩
  by_cases hm:f∈ids
  ·obtain⟨o,a1,a2,a3,a4,a5⟩:=g1 f hm;rw[a5]at hf;cases hf;simp[j7]at a2
  ·rw[g2 f hm]at hf;exact⟨s,hf⟩
 have hown:∀o,own hp' o->own post o:=by
  intro o ho;cases o with
  |cG=>exact hliv _ _ ho
  |dJ=>exact ho
  |arr=>trivial
  |map=>trivial
  |iter=>trivial
  |loop=>trivial
  |fa=>trivial
  |gone=>trivial
 refine⟨hc.below.trans (hn.below.mono fun k hk=>.inl hk),fun k hk=>hn.room k (.inl hk),fun id o hid=>?_,fun id o hid ho=>?_,fun id id' o o' hne hid hid' ho ho' hb=>?_,fun id id' f ep es n el c f' ep' tp' es' n' el' c' hne hid hid' hl hl'=>?_⟩
 ·by_cases hm:id∈ids
  ·obtain⟨o',a1,a2,a3,a4,a5⟩:=g1 id hm;rw[a5]at hid;cases hid;refine (hc.obj id o a1).bE (fun _=>(la a2 hp).1) (fun _=>?_);exact hn.below.block _ (.inr ⟨id,hm,(hblk id hm).symm⟩)
  ·rw[g2 id hm]at hid;exact (hn.obj id o hid).bE (hown o) (fun _=>rfl)
 ·by_cases hm:id∈ids
  ·obtain⟨o',a1,a2,a3,a4,a5⟩:=g1 id hm;rw[a5]at hid;cases hid;exact hc.base id o a1 (la a2 hp).1
  ·rw[g2 id hm]at hid;exact fun hb=>hn.base id o hid (hown o ho) (.inl hb)
 ·by_cases hm:id∈ids
  ·obtain⟨x,a1,a2,a3,a4,a5⟩:=g1 id hm;rw[a5]at hid;cases hid;by_cases hm':id'∈ids
   ·obtain⟨x',b1,b2,b3,b4,b5⟩:=g1 id' hm';rw[b5]at hid';cases hid';exact hc.sep id id' o o' hne a1 b1 (la a2 hp).1 (la b2 hp).1 hb
   ·rw[g2 id' hm']at hid';exact absurd (Or.inr ⟨id,hm,by rw[<-hblk id hm,hb]⟩) (hn.base id' o' hid' (hown o' ho'))
  ·rw[g2 id hm]at hid;by_cases hm':id'∈ids
   ·exact absurd (Or.inr ⟨id',hm',by rw[<-hblk id' hm',hb]⟩) (hn.base id o hid (hown o ho))
   ·rw[g2 id' hm']at hid';exact hn.sep id id' o o' hne hid hid' (hown o ho) (hown o' ho') hb
 ·have hm:id∉ids:=fun hm=>by
    obtain⟨x,a1,a2,a3,a4,a5⟩:=g1 id hm;rw[a5]at hid;cases hid;simp[j7]at a2
  have hm':id'∉ids:=fun hm=>by
   obtain⟨x,a1,a2,a3,a4,a5⟩:=g1 id' hm;rw[a5]at hid';cases hid';simp[j7]at a2
  rw[g2 id hm]at hid;rw[g2 id' hm']at hid';exact hn.e9 id id' f ep es n el c f' ep' tp' es' n' el' c' hne hid hid' (hliv _ _ hl) (hliv _ _ hl')
theorem DO {nx nx1:Pz}{hp pre post hp':Tr AO}{ids:List Pz}(hw:Wf hp nx)(hle:nx.num<=nx1.num)(hp1:Wf post nx1)
  (g1:∀id,id∈ids->∃o,hp.get id=some o/\j7 o=true/\pre.get id=none/\post.get id=none/\hp'.get id=some o) (g2:∀id,id∉ids->hp'.get id=post.get id):Wf hp' nx1:=by
 have hfam:∀f e s,hp'.get f=some (.dJ e s)->post.get f=some (.dJ e s):=by
  intro f e s hf;by_cases hm:f∈ids
  ·obtain⟨o,a1,a2,a3,a4,a5⟩:=g1 f hm;rw[a5]at hf;cases hf;simp[j7]at a2
  ·rwa[g2 f hm]at hf
 have hseg:∀id f ep tp es n el c,hp'.get id=some (.cG f ep tp es n el c)->post.get id=some (.cG f ep tp es n el c):=by
  intro id f ep tp es n el c hf;by_cases hm:id∈ids
  ·obtain⟨o,a1,a2,a3,a4,a5⟩:=g1 id hm;rw[a5]at hf;cases hf;simp[j7]at a2
  ·rwa[g2 id hm]at hf
 refine⟨fun id o hid=>?_,fun id f ep tp es n el c hid=>hp1.dJ _ _ _ _ _ _ _ _ (hseg _ _ _ _ _ _ _ _ hid),fun id f ep tp es n el c e s hid hf=>hp1.ep _ _ _ _ _ _ _ _ _ _ (hseg _ _ _ _ _ _ _ _ hid) (hfam _ _ _ hf),
  fun f e id id' tp es n el c tp' es' n' el' c' hf hid hid'=>hp1.ix _ _ _ _ _ _ _ _ _ _ _ _ _ _ (hfam _ _ _ hf) (hseg _ _ _ _ _ _ _ _ hid) (hseg _ _ _ _ _ _ _ _ hid')⟩
 by_cases hm:id∈ids
 ·obtain⟨x,a1,_⟩:=g1 id hm;exact zaw (hw.lt id x a1) hle
 ·rw[g2 id hm]at hid;exact hp1.lt id o hid
def bX.Ok (P:Program)(f:Nat)(m:bX):Prop:=Tu P f m.args m.pre m.nx m.v m.post m.nx'
theorem Ch {b:Bool}{x z:Rs}(h:bV b x z=.ok):(b=true/\x=.ok)∨z=.ok:=by
 cases b with
 |true=>exact .inl ⟨rfl,h⟩
 |false=>exact .inr h
theorem KT {f:Nat}{m:bX}(hm:m.Ok P f){args:List AV}{hp:Tr AO}{nx:Pz}{k:AV->Tr AO->Pz->Rs}{z:Rs}(h:HS m args hp nx k z=.ok):xG P f args hp nx k∨z=.ok:=by
 unfold HS at h;rcases Ch h with ⟨h1,h⟩|h
 ·rcases Ch h with ⟨h2,h⟩|h
  ·rcases Ch h with ⟨h3,h⟩|h
   ·left;have h1:=lV _ _ h1;have h2:=aK h2;rw[qv,qv]at h2;have h3:Part m.pre hp:=lW _ _ h3;obtain⟨hp',hk,g1,g2⟩:=Ax _ _ _ h;intro B w0 w ι cargs hw hc G hG;subst h1
    have hrun:=hm (fun k=>B k∨∃id,id∈m.bE/\ι.aS id=k) w w ι cargs (xR h3 h2 hw) (fun ι' hι=>by
     have hι:=hι.le h2;obtain⟨c1,e1⟩:=hc ι' hι;have cp:=jz h3 c1;refine⟨⟨Kept.refl _ _,fun k hk=>?_,cp.obj,fun id o hid ho=>?_,cp.sep,cp.e9⟩,e1⟩
     ·rcases hk with hk|⟨id,hid,rfl⟩
      ·exact c1.room k hk
      ·obtain⟨o,a1,a2,_⟩:=g1 id hid;have:=HU a2 (c1.obj id o a1);rwa[(hι id (hw.lt id o a1)).1]at this
     ·rintro (hb|⟨id',hid',hb⟩)
      ·exact cp.base id o hid ho hb
      ·obtain⟨o',a1,a2,a3,_⟩:=g1 id' hid';have hne:id≠id':=fun e=>by rw[e,a3]at hid;cases hid
       obtain⟨fm,_,q⟩:=c1.sep id id' o o' hne (h3 _ _ hid) a1 (h3.own ho) (la a2 hp).1 (by rw[(hι id' (hw.lt id' o' a1)).1,hb]);rw[(la a2 hp).2.1]at q
       cases q)
    refine dh.mono hrun fun cv w'=>?_
    rintro⟨ι2,hwp,hle,ha,hcc⟩
    rcases bQ hk with ⟨hb,hk⟩|⟨hb,hk⟩
    ·rw[za]at hb;have he:=OG hb.1;obtain⟨q1,q2⟩:=hcc ι2 (al.refl _ _);rw[he]at q1;rw[he]at g1 g2;refine hG m.v hp' nx ι cv w' hk (DO hw (zad _) ⟨?_,?_,?_,?_⟩ g1 g2) (zad _) (al.refl _ _) fun ι' hι=>⟨wx hw (zad _) g1 g2 hι (hc ι' hι).1 (qw q1 ι'),by rw[q2];exact FY hb.2 _ _⟩
     ·intro id o hid;rw[Tr.fD]at hid;cases hid
     ·intro id f ep tp es n el c hid;rw[Tr.fD]at hid;cases hid
     ·intro id f ep tp es n el c e s hid;rw[Tr.fD]at hid;cases hid
     ·intro f e id id' tp es n el c tp' es' n' el' c' hid;rw[Tr.fD]at hid;cases hid
    ·have hle':=zam h2 hle;refine hG m.v hp' m.nx' ι2 cv w' hk (DO hw hle' hwp g1 g2) hle' (ha.le h2) fun ι' hι=>⟨?_,(hcc ι' hι).2⟩;have hag:al nx ι ι':=(ha.le h2).trans hι hle';exact wx hw hle' g1 g2 hag (hc ι' hag).1 (hcc ι' hι).1
   ·exact .inr h
  ·exact .inr h
 ·exact .inr h
theorem Ay {f:Nat}:∀(ms:List bX),(∀m∈ms,m.Ok P f)->∀{args:List AV}{hp:Tr AO}{nx:Pz}{k:AV->Tr AO->Pz->Rs}{z:Rs},Cg ms args hp nx k z=.ok->xG P f args hp nx k∨z=.ok
 | [],_,args,hp,nx,k,z,h=>.inr h
 |m::ms,hm,args,hp,nx,k,z,h=>by
  rcases KT (hm m (by simp)) (z:=Cg ms args hp nx k z) h with h|h
  ·exact .inl h
  ·exact Ay ms (fun m' h'=>hm m' (by simp[h'])) h
noncomputable def HV (P:Program)(Pl:Nat->Nat->List Ph)(ms:Nat->List bX)(fu d:Nat):bP :=
 Nat.rec (motive:=fun _=>bP) ⟨fun _ _ _ _ _=>.bad 196,fun _ _ _ _ _ _ _=>.bad 196⟩ (fun _ ih=>⟨fun f args hp nx k=>Cg (ms f) args hp nx k ((Ts P Pl f).run fu ih args hp nx k),QV P Pl fu ih⟩) d
theorem bM (hm:P.follows .mixedOrders=true)(Pl:Nat->Nat->List Ph)(hpl:∀f fn c,P.funcs[f]?=some fn->fn.body=some c->dL P (Pl f) c=true)(ms:Nat->List bX)(HW:∀f m,m∈ms f->m.Ok P f)(fu:Nat):∀d,q8 P (HV P Pl ms fu d)
 |0=>by
  refine⟨fun f args hp nx k h=>?_,fun f nt c tm hp nx K h=>?_⟩
  ·cases h
  ·cases h
 |d+1=>by
  have ih:=bM hm Pl hpl ms HW fu d;have hops:=Oy ih;refine⟨fun f args hp nx k h=>?_,fun f nt c tm hp nx K h hno l B w0 w ι a hs Q hn=>?_⟩
  ·rcases Ay (ms f) (fun m hm=>HW f m hm) (z:=(Ts P Pl f).run fu (HV P Pl ms fu d) args hp nx k) h with h|h
   ·exact h
   ·exact Ow (Al ih) fu Pl hpl hops (fun nt=>DN hm hops nt) h
  ·have h:bV (dL P (Pl f) c) ((zt P f nt (Pl f) c).run fu (HV P Pl ms fu d) tm hp nx K) (.bad 293)=.ok:=h;obtain⟨hp',h⟩:=aJ h;exact DJ (r:=some l) hops (DN hm hops nt) (Al ih) c hp' (.inr hno) fu tm hp nx K h hs hn
end
end Go.aI
namespace Go.aI
open Go.RowKit
section
variable {P:Program}
def um (W W':World):Prop:=Kept (fun k=>k<W.heap.size) W W'
theorem um.keptBut {W W':World}(h:um W W')(may:MemPlace->Prop):W.keptBut W' may:=by
 refine⟨h.os,h.output,fun i hi=>?_⟩;rw[h.block i hi];cases hb:W.heap[i]? with
 |none=>rfl
 |some o =>
  cases o with
  |cells c t fr=>exact⟨rfl,rfl,rfl,fun _ _=>rfl⟩
  |map es c=>exact .inr ⟨rfl,rfl⟩
  |_=>rfl
theorem um.frozen {W W':World}(h:um W W'){a:Addr}(ha:a.block<W.heap.size):W'.frozen? a=W.frozen? a:=by
 unfold World.frozen?;rw[h.block a.block ha]
theorem uo (W:World)(ι:En):Core (fun k=>k<W.heap.size) W ι .e W :=
 have no:∀{id:Pz} {o:AO} {p:Prop},(Tr.e:Tr AO).get id=some o->p:=fun h=>by rw[Tr.fD]at h;cases h
 ⟨Kept.refl _ _,fun _ h=>h,fun _ _ h=>no h,fun _ _ h=>no h,fun _ _ _ _ _ h=>no h,fun _ _ _ _ _ _ _ _ _ _ _ _ _ _ _ _ h=>no h⟩
theorem qx (nx:Pz):Wf .e nx :=
 have no:∀{id:Pz} {o:AO} {p:Prop},(Tr.e:Tr AO).get id=some o->p:=fun h=>by rw[Tr.fD]at h;cases h
 ⟨fun _ _ h=>no h,fun _ _ _ _ _ _ _ _ h=>no h,fun _ _ _ _ _ _ _ _ _ _ h _=>no h,fun _ _ _ _ _ _ _ _ _ _ _ _ _ _ h _=>no h⟩
theorem Az {f:Nat}{fn:Func}{args:Array Value}{w:World}{G:Value->World->Prop}(hf:P.funcs[f]?=some fn)(hb:fn.body.isNone=false)(hn:(fn.name == "runtime.NumGoroutine")=false)(h:dh P (callFunc f args) w G) :
  Calls P f args w fun e w'=>∃cv,e=.returned cv/\G cv w':=by
 have hrun:(callFunc f args).run P w=.ok (.enter f args) w:=by
  simp only[callFunc,Sem.run_bind,run_program,Result.andThen_ok,hf,hn,hb,zag,if_false,Sem.run_pure]
 rcases h with ⟨cv,w',h|⟨h,_⟩,_⟩|⟨f',args',w',h,hc⟩|⟨l,f',tmps,x,y,w',h,_⟩
 ·rw[hrun]at h;cases h
 ·rw[hrun]at h;cases h
 ·rw[hrun]at h;cases h;exact hc
 ·rw[hrun]at h;cases h
end
open Go.RowKit Go.ChangeShapes Go.WideShapes in
theorem vf {H:Type}{enc:TypeId×Value->H}{P:Program}{f:Func}{s:ChangeSpec}{apart fresh handsOn again:Bool}{W W':World}{args:Array Value}{v:Value}{ds gs:List (DataW H)}{before pa pv:List MemPlace}
  (hW:DataW.Whole enc P f.params.toList s.vars apart W args.toList ds gs before)
  (hres:∀(b:Nat) (sp:Nat->Bool) (hd:Bool),DataW.TrodAll enc P W' b sp hd f.resultTypes.toList (v.resultList f.resultTypes.size) (s.fn H (ds++gs)).results [])
  (hargs:∀sp:Nat->Bool,(∀p∈before,sp p.block=true)->DataW.TrodAll enc P W' 0 sp true f.params.toList args.toList (s.fn H (ds++gs)).args pa)
  (hvars:∀sp:Nat->Bool,(∀p∈before,sp p.block=true)->DataW.TrodVars enc P W' sp s.vars (s.fn H (ds++gs)).vars pv)
  (hps:before=pa++pv) (hk:um W W')
  (hok:∀(j:Nat) (t:TypeId) (r:Value),f.resultTypes[j]?=some t->(v.resultList f.resultTypes.size)[j]?=some r->Value.okWide P W' .any 0 t r) :
  s.post enc P f apart fresh handsOn again W args v W':=by
 have hlt:∀p∈before,p.block<W.heap.size:=fun p hp=>hW.lt p hp;have hold:∀p∈before,(fun b=>decide (b<W.heap.size)) p.block=true:=fun p hp=>by simpa using hW.lt p hp
 refine⟨ds,gs,before,[],pa,pv,hW,hres _ _ _,hargs _ hold,hvars _ hold,World.keptBut_mono (fun p hp=>⟨hp,?_⟩) (hk.keptBut (·∈before)),fun _=>?_⟩
 ·rw[hps,List.mem_append]at hp;exact Or.inr hp
 ·obtain⟨_,_,_,_,_,hz,hn⟩:=hW;refine⟨hok,_,_,([]++pa)++pv,⟨[]++pa,pv,trodAll_append (hargs _ (fun _ _=>rfl)) (hres _ _ _),hvars _ (fun _ _=>rfl),rfl,?_,?_⟩,?_⟩
  ·intro b off hp;have hm:MemPlace.cell b off∈before:=by rw[hps];simpa using hp
   rw[hk.frozen (hlt _ hm)];exact hz b off hm
  ·intro ha;have:=hn ha;rw[hps]at this;simpa using this
  ·intro p hp _;rw[hps];simpa using hp
end Go.aI
namespace Go.aI
noncomputable section
def p (es rs sp fs:List Nat)(h:Option Nat):Ph:=⟨es,rs,sp,fs,h,none⟩
 abbrev PL:=List (Nat×List Ph)
def zu (n:Nat):List Nat:=Nat.rec (motive:=fun _=>Nat->List Nat) (fun _=>[]) (fun _ ih i=>i::ih (Nat.succ i)) n 0
def zq:Ph:=p [] [] [] [] none
def zv (n:Nat):Ph:=p [] [] [] [] (some n)
def zw (l:List Nat)(n:Nat):Ph:=p l [] [] [] (some n)
def zx (l:List Nat):Ph:=p l [] [] [] none
def eu {α:Type}(z:α)(n:Nat)(l:List (Nat×α)):α:=List.rec (motive:=fun _=>α) z (fun p _ ih=>Bool.rec (motive:=fun _=>α) ih p.2 (Nat.beq p.1 n)) l
def plz10:PL:=[
 (40,[zw (zu 10) 10,p [] [9] [] [] (some 11),zq]),
 (41,[zx (zu 23)]),
 (44,[zw (zu 13) 13,p [14] (zu 5) [] [] (some 15),zq])]
def plz11:PL:=[
 (5,[zw (zu 10) 10,p [] [9] [] [] (some 11),zq]),
 (7,[zw (zu 7) 7,zq]),
 (18,[zw (zu 10) 10,p [] [9] [] [] (some 11),zq]),
 (20,[p (zu 15) [] [15] [15] (some 16),p [17] (zu 6) [] [] (some 18),zq])]
def plz23:PL:=[
 (5,[zw (zu 6) 6,zq]),
 (7,[zw (zu 6) 6,zq]),
 (9,[zw (zu 8) 8,p [9,10] [0] [] [] (some 11),zq]),
 (10,[zw [0,1,2] 3,p [4,5] [0] [] [] (some 6),zq])]
def plz43:PL:=[
 (3,[p [1] [] [3] [] (some 0),p [2] [1] [3] [3] (some 4),zq]),
 (4,[p [0,3,6] [] [1,4,7,11] [1] (some 2),p [] [3,6] [4,7,11] [4] (some 5),p [] [6] [7,11] [7] (some 8),p [] [] [11] [] (some 9),p [10] [] [11] [11] (some 12),p [] [] [13] [13] (some 14),zq])]
def plz44:PL:=[
 (1,[zw (zu 10) 10,p [] [9] [] [] (some 11),zq]),
 (3,[zw (zu 11) 11,zq]),
 (4,[zw (zu 6) 6,p [] (zu 5) [7] [7] (some 8),p [9,10] [0] [] [] (some 11),zq])]
def plz45:PL:=[
 (1,[zw (zu 10) 10,p [] [9] [] [] (some 11),zq]),
 (3,[zw (zu 11) 11,zq]),
 (4,[zw (zu 6) 6,p [] (zu 5) [7] [7] (some 8),p [9,10] [0] [] [] (some 11),zq])]
def plz48:PL:=[
 (6,[zw (zu 13) 13,p [] [12] [] [] (some 14),zq]),
 (8,[zw (zu 10) 10,zq])]
def plz50:PL:=[
 (6,[p (zu 11) [] [11] [11] (some 12),p [13,14] [0] [] [] (some 15),zq]),
 (20,[zw (zu 7) 7,p [] [0] [] [] (some 8),zv 9,zq]),
 (21,[zw (zu 10) 10,p [] (zu 5) [11] [11] (some 12),p [13,14] [0] [] [] (some 15),zq])]
def plz56:PL:=[
 (15,[zw [0,2,3,4,5] 1,p [6] [2,3,4,5] [] [] (some 7),zv 8,zq])]
def plz57:PL:=[
 (1,[zw (zu 8++[9,10,11,12,13,14,15,16]) 8,p [] [9,10,11,12,13,14,15,16] [] [] (some 17),zv 18,zv 19,zq])]
def plz58:PL:=[
 (6,[zx (zu 9)])]
def plz59:PL:=[
 (6,[zw (zu 22) 22,zx [23,24]])]
def plz63:PL:=[
 (4,[zw (zu 8) 8,zq])]
def plz64:PL:=[
 (5,[zw [0,1,2] 3,p [4] [0,1] [5] [5] (some 6),zv 7,zq])]
def plz87:PL:=[
 (2,[p [1] [] [3] [] (some 0),p [2] [1] [3] [3] (some 4),zq]),
 (3,[p [0,1,3] [] [2] [] (some 4),p [] [0,1] [2,5] [2,5] (some 6),zq])]
def plz91:PL:=[
 (1,[zw (zu 4) 4,p [] [2,3] [] [] (some 5),zq]),
 (6,[zw [0,1,2] 3,p [] [0,1] [4] [4] (some 5),zw [6] 7,zq])]
def plz103:PL:=[
 (1,[zw (zu 9) 9,zx [10,11]])]
def plz104:PL:=[
 (3,[p (zu 6) [] [10] [] (some 6),p [7,8,9] [] [10] [10] (some 11),p [] [9] [] [] (some 12),zq]),
 (4,[p (zu 11) [] [11] [11] (some 12),p [13,14] [0] [] [] (some 15),zq])]
def plz106:PL:=[
 (21,[zw (zu 11) 11,zq]),
 (26,[zw (zu 6) 6,zw [7,8,9,10] 11,zq]),
 (15,[zw (zu 7) 7,zw [8,9,10] 11,p [12] [10] [] [] (some 13),zq]),
 (17,[zw (zu 6++[7]) 6,p [] [0,1,7] [] [] (some 8),zv 9,zq]),
 (27,[p (zu 6) [] [6] [6] (some 7),p [8,9] [0] [] [] (some 10),zq])]
def plz112:PL:=[
 (8,[p [0,1] [] [2,3] [] (some 4),p [] [0,1] [2,3] [2,3] (some 5),zq]),
 (11,[zx (zu 12)])]
def plz114:PL:=[
 (6,[p (zu 7) [] [7,8] [] (some 9),p [] [1,2,3,4,5,6] [7,8] [7,8] (some 10),zq])]
def plz115:PL:=[
 (4,[zw (zu 5) 5,p [] (zu 5) [] [] (some 6),p [7,8] [0] [] [] (some 9),zq]),
 (5,[zw (zu 5) 5,p [] (zu 5) [] [] (some 6),p [7,8] [0] [] [] (some 9),zq])]
def plz118:PL:=[
 (13,[zw (zu 9) 9,p [] [1,2,3,4,5,6,7,8] [] [] (some 10),p [] [5,6,7,8] [] [] (some 11),zq])]
def plz119:PL:=[
 (20,[zw (zu 9) 9,zw [10,11,12,13,14] 15,p [] [12,13,14] [] [] (some 16),p [] [13,14] [] [] (some 17),zq])]
def plz125:PL:=[
 (0,[zw (zu 8) 8,zw [9,10,11] 12,p [] [11] [] [] (some 13),zq]),
 (1,[p (zu 10) [] [10] [10] (some 11),p [] (zu 8) [] [] (some 12),zq])]
def plz126:PL:=[
 (0,[p (zu 12) [] [12] [12] (some 13),p [] [11] [] [] (some 14),zq]),
 (2,[zw (zu 9) 9,zq]),
 (3,[zw (zu 11) 11,zw [12,13,14] 15,p [] [14] [] [] (some 16),zq]),
 (6,[zw (zu 12) 12,zq])]
def plz127:PL:=[
 (0,[zw (zu 21) 21,zx [22]])]
def plz150:PL:=[
 (9,[zw (zu 6++[7,8]) 6,p [9] [0,1,2,3,7,8] [10] [10] (some 11),zw [12] 13,zq])]
def plz156:PL:=[
 (6,[p (zu 12) [] [12] [12] (some 13),p [14,15] [0] [] [] (some 16),zq])]
def plz157:PL:=[
 (17,[zw (zu 16) 16,zv 17,zv 18,zq])]
def plz159:PL:=[
 (11,[zw [0,1] 2,p [] [0,1] [] [] (some 3),zq]),
 (17,[zw [0,1] 2,p [] [0,1] [] [] (some 3),zq]),
 (19,[zw [0,1] 2,p [] [0,1] [] [] (some 3),zq])]
def plz164:PL:=[
 (28,[zw [0] 1,zw [2,3,4,5] 6,zw [7,8,9,10,11,12,15,16] 13,p [14,17,18] [15,16] [] [] none]),
 (35,[p (zu 21) [] [21] [21] (some 22),zv 23,zq])]
def plz165:PL:=[
 (15,[zx (zu 11)]),
 (17,[zw (zu 14) 14,zq])]
def plz171:PL:=[
 (15,[p (zu 11) [] [11] [11] (some 12),p [13,14] [0] [] [] (some 15),zq])]
def plz172:PL:=[
 (8,[zw (zu 6) 6,p [] (zu 4) [] [] (some 7),zq])]
def plz173:PL:=[
 (16,[p (zu 7) [] [7] [7] (some 8),zw [9] 10,zq]),
 (17,[p (zu 12) [] [12] [12] (some 13),p [14,15] [0,1,2] [] [] (some 16),zq])]
def plz177:PL:=[
 (10,[zw (zu 5) 5,zv 6,zq]),
 (20,[p (zu 11) [] [11] [11] (some 12),zw [13] 14,zq])]
def plz179:PL:=[
 (4,[zw [1] 0,p [2] [1] [3] [3] (some 4),zq])]
def plz180:PL:=[
 (11,[p (zu 12) [] [12] [12] (some 13),zv 14,zq]),
 (22,[zw [0,2,3] 1,p [] [2,3] [] [] (some 4),zx [5]])]
def plz181:PL:=[
 (8,[zw [0,2,3,4] 1,p [] [2,3,4] [] [] (some 5),zv 6,zq])]
def plz182:PL:=[
 (9,[zw [0,2,3,4,5,6,7,8,9,10,11] 1,p [] [2,3,4,5,6,7,8,9,10,11] [] [] (some 12),zw [13,14,15] 16,p [] [15] [] [] none]),
 (10,[zw (zu 18) 18,zq]),
 (15,[p [0,2,3,4,5,6,7] [] [12] [] (some 1),p [] [2,3,4,5,6,7] [12] [] (some 8),p [9,10,11] [] [12] [12] (some 13),p [] [11] [] [] (some 14),zq]),
 (16,[zw (zu 20) 20,zq])]
def plz183:PL:=[
 (9,[zw (zu 6++[7,8,9,10,11,12]) 6,p [] [0,1,2,3,4,7,8,9,10,11,12] [] [] (some 13),p [] (zu 5) [] [] (some 14),p [15,16] [0] [] [] (some 17),zq])]
def plz184:PL:=[
 (6,[p [0,2,3,4,5,6,7] [] [12] [] (some 1),p [] [2,3,4,5,6,7] [12] [] (some 8),p [9,10,11] [] [12] [12] (some 13),p [] [11] [] [] (some 14),zq]),
 (13,[zw (zu 15) 15,zq]),
 (19,[zx (zu 30)]),
 (22,[zx (zu 30)]),
 (24,[p [0,2,3,4,5,6,7] [] [12] [] (some 1),p [] [2,3,4,5,6,7] [12] [] (some 8),p [9,10,11] [] [12] [12] (some 13),p [] [11] [] [] (some 14),zq]),
 (26,[p (zu 14) [] [14] [14] (some 15),zv 16,zq])]
def plz185:PL:=[
 (13,[p (zu 17) [] [17,18,19] [17,18,19] (some 20),zv 21,zq])]
def plz186:PL:=[
 (9,[zw (zu 12) 12,zv 13,zq])]
def plz190:PL:=[
 (8,[p (zu 16) [] [16] [16] (some 17),p [18,19] [0] [] [] (some 20),zq])]
def plz192:PL:=[
 (6,[zx (zu 39)])]
def plz194:PL:=[
 (3,[zw (zu 9) 9,p [] [1,2,3,4,5,6,7,8] [] [] (some 10),p [] [5,6,7,8] [] [] (some 11),zv 12,zq]),
 (7,[zw [0,1] 2,p [] [1] [] [] (some 3),p [] [1] [] [] (some 4),zv 5,zq])]
def plz197:PL:=[
 (9,[zw (zu 9) 9,zv 10,zq])]
def plz199:PL:=[
 (9,[zw (zu 10) 10,zq])]
def plz200:PL:=[
 (7,[zw (zu 11) 11,p [] [10] [] [] (some 12),zq]),
 (11,[zw (zu 14) 14,zv 15,zq])]
def plz209:PL:=[
 (19,[zw (zu 6) 6,zv 7,zq]),
 (21,[zw (zu 10) 10,p [] (zu 4) [] [] (some 11),zv 12,zq])]
def plz217:PL:=[
 (6,[zw [0,1,2] 3,p [] [0,1] [4] [4] (some 5),zw [6] 7,zq]),
 (11,[zw (zu 6++[7,8]) 6,p [9] [0,1,2,3,7,8] [10] [10] (some 11),zw [12] 13,zq])]
def plz219:PL:=[
 (2,[p (zu 14) [] [14] [14] (some 15),p [16,17] [0] [] [] (some 18),zq]),
 (8,[p (zu 6) [] [10] [] (some 6),p [7,8,9] [] [10] [10] (some 11),p [] [9] [] [] (some 12),zq])]
def plz225:PL:=[
 (5,[zw (zu 6) 6,zq])]
def plz226:PL:=[
 (18,[zw (zu 8) 8,zq])]
def plz229:PL:=[
 (1,[p (zu 10) [] [10] [10] (some 11),zq])]
def plz240:PL:=[
 (8,[zx (zu 11)])]
def plz246:PL:=[
 (8,[zx (zu 49)])]
def plz247:PL:=[
 (6,[p (zu 12) [] [12] [12] (some 13),zv 14,zq]),
 (17,[p (zu 12) [] [12] [12] (some 13),zv 14,zq])]
def plz249:PL:=[
 (5,[p (zu 12) [] [12] [12] (some 13),zv 14,zq])]
def plz250:PL:=[
 (5,[p (zu 12) [] [12] [12] (some 13),zv 14,zq])]
def plz251:PL:=[
 (5,[p (zu 12) [] [12] [12] (some 13),zv 14,zq])]
def plz255:PL:=[
 (6,[zw (zu 10) 10,zw [11,12] 13,zq]),
 (9,[zw [0,1,3,4] 2,p [] [3,4] [] [] (some 5),zv 6,zv 7,zq]),
 (16,[p (zu 8) [] [8] [8] (some 9),zq]),
 (17,[zw (zu 12) 12,zq])]
def plz257:PL:=[
 (2,[p (zu 13) [] [13] [13] (some 14),p [15] (zu 5) [] [] (some 16),zq])]
def plz259:PL:=[
 (10,[p (zu 12) [] [12] [12] (some 13),zv 14,zq]),
 (11,[zw (zu 8) 8,zq])]
def plz261:PL:=[
 (5,[zw (zu 16) 16,p [] (zu 5) [] [] (some 17),p [18,19] [0] [] [] (some 20),zq])]
def plz263:PL:=[
 (8,[zw [0,1,2] 3,zv 4,zq])]
def plz265:PL:=[
 (3,[zw [0,1,2,5,6] 3,p [] [0,5,6] [] [] (some 4),p [7] [5,6] [] [] (some 8),zq]),
 (7,[zw (zu 7++[9,10,11,14,15]) 7,p [] [0,1,2,3,4,9,10,11,14,15] [] [] (some 8),p [] [0,1,2,3,9,10,11,14,15] [] [] (some 12),p [] [0,1,2,3,9,14,15] [] [] (some 13),p [16] [0,1,2,3,14,15] [] [] (some 17),zq]),
 (8,[p [0,1,2,5,6,7,10,11] [] [13] [] (some 3),p [] [0,5,6,7,10,11] [13] [] (some 4),p [] [5,6,7,10,11] [13] [] (some 8),p [] [5,10,11] [13] [] (some 9),p [12] [10,11] [13] [13] (some 14),zq])]
def plz271:PL:=[
 (1,[zw (zu 4) 4,p [] [0,1] [] [] (some 5),zw [6] 7,zq]),
 (2,[zw (zu 4) 4,p [] [0,1] [] [] (some 5),zw [6] 7,zq]),
 (3,[zw (zu 4) 4,p [] [0,1] [] [] (some 5),zw [6] 7,zq]),
 (4,[zw (zu 4) 4,p [] [0,1] [] [] (some 5),zw [6] 7,zq]),
 (5,[zw (zu 4) 4,p [] [0,1] [] [] (some 5),zw [6] 7,zq]),
 (6,[zw (zu 4) 4,p [] [0,1] [] [] (some 5),zw [6] 7,zq]),
 (7,[zw (zu 4) 4,p [] [0,1] [] [] (some 5),zw [6] 7,zq])]
def plz274:PL:=[
 (6,[p (zu 6) [] [8] [] (some 6),p [7] [0,1,2] [8] [8] (some 9),zq]),
 (9,[zw [0,1,2,4] 3,p [5,7] [0,1,2,4] [6] [6] (some 8),zq])]
def plz276:PL:=[
 (7,[zw (zu 8) 8,zq])]
def plz280:PL:=[
 (8,[zx (zu 11)])]
def plz281:PL:=[
 (1,[p (zu 7) [] [7,8,9] [7,8,9] (some 10),p [11,12] [0] [] [] (some 13),zq])]
def plz288:PL:=[
 (12,[p (zu 9) [] [12] [] (some 9),p [10,11] (zu 4) [12] [12] (some 13),zq])]
def plz289:PL:=[
 (5,[p (zu 12) [] [12] [12] (some 13),zv 14,zq]),
 (10,[zw (zu 14) 14,zq]),
 (22,[zw (zu 14) 14,zq])]
def plz296:PL:=[
 (5,[zw (zu 18) 18,zq])]
def plz299:PL:=[
 (10,[zx (zu 19)])]
def plz300:PL:=[
 (9,[zw (zu 19) 19,zq])]
def plz302:PL:=[
 (12,[zw [0,1,2,3,6] 4,p [5,7,8,9] [0,1,2,6] [] [] (some 10),zv 11,zq])]
def plz303:PL:=[
 (14,[zx (zu 11)])]
def plz304:PL:=[
 (10,[zw [0,2,3,4] 1,p [] [2,3,4] [] [] (some 5),zx [6]])]
def plz305:PL:=[
 (11,[zw (zu 9) 9,zx [10]]),
 (12,[p (zu 11) [] [11] [11] (some 12),p [] [0] [13] [13] (some 14),zv 15,zq])]
def plz306:PL:=[
 (14,[zw (zu 18) 18,zq])]
def plz307:PL:=[
 (11,[zw (zu 9) 9,zv 10,zq]),
 (15,[zw [0,2,3,4] 1,p [] [2,3,4] [] [] (some 5),zw [6,7,8,9,10,11,12,13,14,15,16,17,18,19] 20,zx [21,22]]),
 (16,[p (zu 8) [] [8] [8] (some 9),p [] [0] [10] [10] (some 11),zv 12,zq])]
def plz308:PL:=[
 (5,[p (zu 7) [] [7] [7] (some 8),zw [9] 10,zq]),
 (10,[p (zu 9) [] [9] [9] (some 10),zw [11] 12,zq]),
 (11,[p (zu 9) [] [9] [9] (some 10),zw [11] 12,zq])]
def plz309:PL:=[
 (14,[zw (zu 8) 8,zv 9,zq])]
def plz310:PL:=[
 (2,[zx (zu 10)]),
 (12,[p (zu 6) [] [6] [6] (some 7),p [8,9] [0] [] [] (some 10),zq])]
def plz312:PL:=[
 (9,[zw (zu 7) 7,zq])]
def plz313:PL:=[
 (8,[zw (zu 18) 18,zx [19,20]])]
def plz314:PL:=[
 (14,[zw (zu 7) 7,zv 8,zq])]
def plz315:PL:=[
 (18,[p (zu 7) [] [8] [] (some 7),p [] [] [8] [8] (some 9),zq]),
 (21,[p (zu 6) [] [10] [] (some 6),p [7,8,9] [] [10] [10] (some 11),p [] [9] [] [] (some 12),zq])]
def plz318:PL:=[
 (1,[zw (zu 11) 11,zx [12]]),
 (19,[p (zu 7) [] [8] [] (some 7),p [] [] [8] [8] (some 9),zq]),
 (22,[zw (zu 6) 6,zq]),
 (24,[p (zu 6) [] [10] [] (some 6),p [7,8,9] [] [10] [10] (some 11),p [] [9] [] [] (some 12),zq])]
def plz337:PL:=[
 (1,[zw (zu 5) 5,zq]),
 (2,[p (zu 8) [] [8] [8] (some 9),p [10,11] [0] [] [] (some 12),zq]),
 (3,[p (zu 10) [] [10] [10] (some 11),p [12,13] [0] [] [] (some 14),zq])]
def plz338:PL:=[
 (3,[p (zu 9) [] [13] [] (some 9),p [10,11,12] [] [13] [13] (some 14),p [] [12] [] [] (some 15),zq]),
 (4,[p (zu 14) [] [14] [14] (some 15),p [16,17] [0] [] [] (some 18),zq]),
 (5,[zw (zu 9) 9,zq])]
def plz354:PL:=[
 (5,[zw (zu 5) 5,zv 6,zq]),
 (10,[zw (zu 6) 6,zq])]
def plz357:PL:=[
 (1,[p (zu 10) [] [10] [10] (some 11),zq])]
def plz358:PL:=[
 (1,[p (zu 10) [] [10] [10] (some 11),zq]),
 (2,[zx (zu 11)])]
def plz361:PL:=[
 (10,[p (zu 11) [] [11] [11] (some 12),p [13,14] [0] [] [] (some 15),zq]),
 (13,[p (zu 12) [] [12] [12] (some 13),p [14,15] [0] [] [] (some 16),zq]),
 (19,[p (zu 6) [] [6] [6] (some 7),p [8,9] [0] [] [] (some 10),zq])]
def plz367:PL:=[
 (3,[zw [0,1,3,4] 2,p [] [3,4] [] [] (some 5),zv 6,zv 7,zq]),
 (9,[p (zu 8) [] [8] [8] (some 9),zq]),
 (10,[zw (zu 6++[7]) 6,p [8,9,10,11,12,13,14,15,16,17,18,19,20,21,22,23] [7] [] [] none]),
 (11,[p (zu 12) [] [12] [12] (some 13),zq]),
 (16,[p (zu 8) [] [8] [8] (some 9),zq])]
def plz369:PL:=[
 (5,[p (zu 14) [] [14] [14] (some 15),zv 16,zq]),
 (17,[zw (zu 13) 13,p [] (zu 5) [] [] (some 14),p [15,16] [0] [] [] (some 17),zq])]
def plz378:PL:=[
 (1,[zw (zu 14) 14,zq])]
def plz379:PL:=[
 (5,[zw (zu 6++[8,9]) 6,p [] [0,1,2,3,8,9] [] [] (some 7),p [10] [0,1,2,8,9] [11] [11] (some 12),zv 13,zq])]
def plz381:PL:=[
 (3,[p [0,1,2,3,4,7,8,9,12,13] [] [15] [] (some 5),p [] [0,1,2,7,8,9,12,13] [15] [] (some 6),p [] [0,1,7,8,9,12,13] [15] [] (some 10),p [] [0,1,7,12,13] [15] [] (some 11),p [14] [0,1,12,13] [15] [15] (some 16),zq])]
def plz383:PL:=[
 (5,[p (zu 11) [] [11] [11] (some 12),zq])]
def plz391:PL:=[
 (6,[zw (zu 11) 11,zv 12,zq])]
def plz395:PL:=[
 (6,[zw (zu 10) 10,zq])]
def plz396:PL:=[
 (14,[zw (zu 10) 10,zq])]
def plz397:PL:=[
 (2,[zx (zu 38)]),
 (3,[zw (zu 13) 13,zq])]
def plz399:PL:=[
 (8,[zw (zu 24) 24,zw [25,26] 27,zq])]
def plz402:PL:=[
 (3,[zw [0,2,3,4] 1,p [] [2,3,4] [] [] (some 5),zx [6]])]
def plz406:PL:=[
 (11,[zw (zu 13) 13,zq])]
def plz408:PL:=[
 (1,[zw (zu 4) 4,p [] [2,3] [] [] (some 5),zq]),
 (3,[zw (zu 14) 14,zw [15] 16,zq])]
def plz410:PL:=[
 (4,[zx (zu 30)])]
def plz411:PL:=[
 (0,[zw (zu 8) 8,zw [9,10,11,12] 13,p [] [11,12] [] [] (some 14),p [] [12] [] [] (some 15),zq]),
 (3,[p (zu 9) [] [15] [] (some 9),p [10] [] [15] [] (some 11),p [12,13,14] [] [15] [15] (some 16),p [] [14] [] [] (some 17),zq])]
def plz421:PL:=[
 (13,[zw (zu 9) 9,zv 10,zq])]
def plz424:PL:=[
 (9,[p (zu 9) [] [10] [] (some 9),p [] [] [10] [10] (some 11),zq])]
def plz427:PL:=[
 (23,[p (zu 10) [] [10] [10] (some 11),zw [12] 13,zq])]
def plz429:PL:=[
 (26,[p (zu 10) [] [10] [10] (some 11),zw [12] 13,zq])]
def plz430:PL:=[
 (9,[zx (zu 16)]),
 (12,[p (zu 9) [] [10] [] (some 9),p [] [] [10] [10] (some 11),zq])]
def plz439:PL:=[
 (7,[zx (zu 11)]),
 (9,[zw (zu 11) 11,zq]),
 (10,[zw (zu 11) 11,zq])]
def plz440:PL:=[
 (12,[zw (zu 7) 7,zw [8,9,10] 11,p [12] [10] [] [] (some 13),zq]),
 (15,[zw (zu 7) 7,zv 8,zq]),
 (21,[zw (zu 6) 6,zw [7,8,9,10] 11,zq]),
 (22,[zw (zu 6) 6,zv 7,zq]),
 (26,[p (zu 6) [] [6] [6] (some 7),p [8,9] [0] [] [] (some 10),zq])]
def plz450:PL:=[
 (1,[zw (zu 10) 10,zq])]
def plz451:PL:=[
 (2,[zw (zu 10) 10,zq])]
def plz453:PL:=[
 (6,[zx (zu 9)])]
def plz462:PL:=[
 (5,[zx (zu 9)])]
def plz465:PL:=[
 (4,[zw [0,1,2,3,4,6] 5,p [] [3,6] [] [] (some 7),p [] [3] [] [] (some 8),zw [9] 10,zq]),
 (6,[zw [0,1,3] 2,p [] [0,3] [] [] (some 4),zv 5,zq]),
 (8,[zw [0,1,2,3,4,6] 5,p [] [3,6] [] [] (some 7),p [] [3] [] [] (some 8),zw [9] 10,zq])]
def plz468:PL:=[
 (7,[zw (zu 6++[7,8,9,10,12,13]) 6,p [] [0,1,7,8,9,10,12,13] [] [] (some 11),p [14] [0,1,12,13] [] [] (some 15),zq]),
 (8,[zw (zu 11) 11,zq]),
 (10,[zw (zu 6++[7,8]) 6,p [9] [0,1,7,8] [] [] (some 10),zq]),
 (11,[zw [0,1,2,3,5,6,7,8,10,11] 4,p [] [5,6,7,8,10,11] [] [] (some 9),p [12] [10,11] [] [] (some 13),zq]),
 (12,[p [0,1,2,3,4,7,8,9,12,13] [] [15] [] (some 5),p [] [0,1,2,7,8,9,12,13] [15] [] (some 6),p [] [0,1,7,8,9,12,13] [15] [] (some 10),p [] [0,1,7,12,13] [15] [] (some 11),p [14] [0,1,12,13] [15] [15] (some 16),zq])]
def plz472:PL:=[
 (13,[p (zu 16) [] [16] [16] (some 17),zw [18] 19,zq])]
def plz474:PL:=[
 (15,[p (zu 8) [] [8] [8] (some 9),zv 10,zq]),
 (21,[zw (zu 7) 7,zw [8,9,10] 11,p [] [10] [] [] none]),
 (22,[p (zu 9) [] [9] [9] (some 10),zv 11,zq])]
def plz475:PL:=[
 (3,[p (zu 10) [] [10] [10] (some 11),zq]),
 (10,[zw (zu 6) 6,zw [7,8,9] 10,p [] [9] [] [] (some 11),zq])]
def plz477:PL:=[
 (10,[zw (zu 10) 10,zx [11]])]
def plz479:PL:=[
 (9,[zx (zu 24)])]
def plz481:PL:=[
 (1,[zw (zu 4) 4,p [] [2,3] [] [] (some 5),zq]),
 (7,[zw (zu 10) 10,p [] [5,6,7,8,9] [] [] (some 11),zq]),
 (13,[zw (zu 10) 10,p [] [5,6,7,8,9] [] [] (some 11),zq])]
def plz482:PL:=[
 (4,[zw (zu 11) 11,zq]),
 (6,[zw (zu 11) 11,zq]),
 (8,[zw (zu 11) 11,zq]),
 (10,[zw (zu 11) 11,zq])]
def plz483:PL:=[
 (4,[zw (zu 8) 8,zv 9,zq])]
def plz490:PL:=[
 (1,[zw (zu 10) 10,zq])]
def plz497:PL:=[
 (1,[p (zu 8) [] [12] [] (some 8),p [9,10,11] [] [12] [12] (some 13),p [] [11] [] [] (some 14),zq])]
def plz501:PL:=[
 (4,[zw (zu 6) 6,p [7] (zu 4) [] [] (some 8),zv 9,zq])]
def plz503:PL:=[
 (1,[zw (zu 8) 8,zv 9,zq]),
 (2,[zw (zu 10) 10,zw [11,12,13,14] 15,zx [16,17,18]])]
def plz507:PL:=[
 (1,[zw (zu 5) 5,zv 6,zq]),
 (8,[p (zu 6) [] [6] [6] (some 7),p [8,9] [0] [] [] (some 10),zq]),
 (17,[zw (zu 6) 6,zv 7,zq]),
 (28,[zw (zu 26) 26,zq]),
 (29,[zw (zu 9) 9,zq])]
def plz517:PL:=[
 (11,[zw (zu 9++[13]) 9,p [10,11,12] [0,1,2,3,13] [] [] (some 14),zv 15,zq])]
def plz518:PL:=[
 (2,[zw [0,1,2,3,4,7,8] 5,p [] [0,1,2,7,8] [] [] (some 6),p [9] [0,1,7,8] [] [] (some 10),zq])]
def plz519:PL:=[
 (14,[p (zu 6) [] [6] [6] (some 7),⟨[8,10,11],[],[],[],(some 9),some (12,[11,10],[8])⟩]),
 (23,[p (zu 11) [] [11] [11] (some 12),⟨[13,15,16],[],[],[],(some 14),some (17,[16,15],[13])⟩])]
def plz520:PL:=[
 (10,[zx (zu 13)])]
def plz523:PL:=[
 (24,[zx (zu 14)])]
def plz524:PL:=[
 (5,[p (zu 7) [] [11] [] (some 7),p [8,9,10] [] [11] [11] (some 12),p [] [10] [] [] (some 13),zq]),
 (12,[zw (zu 9++[10]) 9,p [11,12,13,14,15,16,17,18,19,20,21,22,23,24,25,26,27,28,29] [10] [] [] (some 30),zx [31,32]])]
def plz526:PL:=[
 (9,[zw (zu 29) 29,zx [30]])]
def plz527:PL:=[
 (12,[p (zu 9) [] [12] [] (some 9),p [10,11] (zu 4) [12] [12] (some 13),zq])]
def plz536:PL:=[
 (16,[zx (zu 13)])]
def plz546:PL:=[
 (4,[zw (zu 9) 9,p [] [5,6,7,8] [] [] (some 10),zq])]
def plz548:PL:=[
 (32,[zw (zu 6) 6,p [] [1,2,3,4,5] [] [] (some 7),p [] [3,4,5] [] [] (some 8),zq])]
def plz571:PL:=[
 (8,[zx (zu 9)]),
 (10,[zx (zu 9)])]
def FZ:List (Nat×List (Nat×List Ph)):=[
 (10,plz10),(11,plz11),(23,plz23),(43,plz43),(44,plz44),(45,plz45),(48,plz48),(50,plz50),(56,plz56),(57,plz57),(58,plz58),(59,plz59),(63,plz63),(64,plz64),(87,plz87),(91,plz91),(103,plz103),(104,plz104),(106,plz106),(112,plz112),(114,plz114),(115,plz115),(118,plz118),(119,plz119),(125,plz125),(126,plz126),(127,plz127),(150,plz150),(156,plz156),(157,plz157),
 (159,plz159),(164,plz164),(165,plz165),(171,plz171),(172,plz172),(173,plz173),(177,plz177),(179,plz179),(180,plz180),(181,plz181),(182,plz182),(183,plz183),(184,plz184),(185,plz185),(186,plz186),(190,plz190),(192,plz192),(194,plz194),(197,plz197),(199,plz199),(200,plz200),(209,plz209),(217,plz217),(219,plz219),(225,plz225),(226,plz226),(229,plz229),(240,plz240),(246,plz246),(247,plz247),
 (249,plz249),(250,plz250),(251,plz251),(255,plz255),(257,plz257),(259,plz259),(261,plz261),(263,plz263),(265,plz265),(271,plz271),(274,plz274),(276,plz276),(280,plz280),(281,plz281),(288,plz288),(289,plz289),(296,plz296),(299,plz299),(300,plz300),(302,plz302),(303,plz303),(304,plz304),(305,plz305),(306,plz306),(307,plz307),(308,plz308),(309,plz309),(310,plz310),(312,plz312),(313,plz313),
 (314,plz314),(315,plz315),(318,plz318),(337,plz337),(338,plz338),(354,plz354),(357,plz357),(358,plz358),(361,plz361),(367,plz367),(369,plz369),(378,plz378),(379,plz379),(381,plz381),(383,plz383),(391,plz391),(395,plz395),(396,plz396),(397,plz397),(399,plz399),(402,plz402),(406,plz406),(408,plz408),(410,plz410),(411,plz411),(421,plz421),(424,plz424),(427,plz427),(429,plz429),(430,plz430),
 (439,plz439),(440,plz440),(450,plz450),(451,plz451),(453,plz453),(462,plz462),(465,plz465),(468,plz468),(472,plz472),(474,plz474),(475,plz475),(477,plz477),(479,plz479),(481,plz481),(482,plz482),(483,plz483),(490,plz490),(497,plz497),(501,plz501),(503,plz503),(507,plz507),(517,plz517),(518,plz518),(519,plz519),(520,plz520),(523,plz523),(524,plz524),(526,plz526),(527,plz527),(536,plz536),
 (546,plz546),(548,plz548),(571,plz571)]
def Pl (f id:Nat):List Ph:=eu [] id (eu [] f FZ)
end
end Go.aI
namespace Go.aI
noncomputable def z (n:Nat):Pz:=aX n
theorem wy {α β:Type}{f:Nat}{x:α}:∀{rows:List (Nat×List α)},x∈eu [] f rows->∃r∈rows,r.1=f/\x∈r.2
 | [],h=>by cases h
 |r::rows,h=>by
  have h:x∈(Bool.rec (motive:=fun _=>List α) (eu [] f rows) r.2 (Nat.beq r.1 f):List α):=h;cases hb:Nat.beq r.1 f with
  |true=>rw[hb]at h;exact⟨r,zac ..,ai hb,h⟩
  |false =>
   rw[hb]at h;obtain⟨r',h1,h2⟩:=wy (β:=β) h;exact⟨r',zaa _ h1,h2⟩
variable {P:Program}
theorem bw {f:Nat}:∀m∈([]:List bX),m.Ok P f:=fun m h=>by simp at h
theorem a9 {f:Nat}{m:bX}{ms:List bX}{bE:List Pz}(h:m.Ok P f)(hs:∀m∈ms,bX.Ok P f m):∀m'∈{ m with bE:=bE }::ms,bX.Ok P f m':=fun m' hm=>by
 rcases List.mem_cons.1 hm with rfl|hm
 ·exact h
 ·exact hs m' hm
theorem bR:∀r∈([]:List (Nat×List bX)),∀m∈r.2,bX.Ok P r.1 m:=fun r h=>by simp at h
theorem bx {f:Nat}{ms:List bX}{rows:List (Nat×List bX)}(h:∀m∈ms,bX.Ok P f m)(hs:∀r∈rows,∀m∈r.2,bX.Ok P r.1 m):∀r∈(f,ms)::rows,∀m∈r.2,bX.Ok P r.1 m:=fun r hr=>by
 rcases List.mem_cons.1 hr with rfl|hr
 ·exact h
 ·exact hs r hr
theorem bF {rows:List (Nat×List bX)}(h:∀r∈rows,∀m∈r.2,bX.Ok P r.1 m):∀f m,m∈eu [] f rows->bX.Ok P f m:=fun f m hm=>by
 obtain⟨r,h1,rfl,h2⟩:=wy (β:=Nat) hm;exact h r h1 m h2
noncomputable def okB (r:Rs):Bool:=Rs.rec (motive:=fun _=>Bool) true (fun _=>false) r
theorem di {r:Rs}(h:okB r=true):r=.ok:=by
 cases r with
 |ok=>rfl
 |bad n=>cases h
theorem cC {call:bP}(hcall:q8 P call){f:Nat}{args:List AV}{pre post:Tr AO}{nx nx':Pz}{v:AV}(h:okB (call.run f args pre nx (Q1 v post nx'))=true):Tu P f args pre nx v post nx':=OE hcall (di h)
end Go.aI
namespace Go.aI
open Go.RowKit
section
variable {P:Program}
theorem xT {o:AO}{ι:En}{hp:Tr AO}{w:World}{id:Pz}(h:own hp o)(ho:ji ι hp w id o):ι.aS id<w.heap.size:=by
 cases o with
 |arr =>
  obtain⟨C,fz,h1,_⟩:=ho;exact (Array.getElem?_eq_some_iff.1 h1).1
 |cG =>
  obtain⟨C,fz,h1,_⟩:=ho h;exact (Array.getElem?_eq_some_iff.1 h1).1
 |dJ=>exact h.elim
 |map =>
  obtain⟨E,h1,_⟩:=ho;exact (Array.getElem?_eq_some_iff.1 h1).1
 |iter=>exact (Array.getElem?_eq_some_iff.1 ho.1).1
 |loop =>
  obtain⟨fn,tmps,D,h1,_⟩:=ho;exact (Array.getElem?_eq_some_iff.1 h1).1
 |fa=>exact (Array.getElem?_eq_some_iff.1 ho).1
 |gone =>
  have ho:(w.heap[ι.aS id]?).isSome=true:=ho;cases hb:w.heap[ι.aS id]? with
  |none=>rw[hb]at ho;cases ho
  |some x=>exact (Array.getElem?_eq_some_iff.1 hb).1
end
end Go.aI

namespace Go.aI
open Go.RowKit
inductive BK where|raw|data|loc
inductive Gh where
  |cells (k:BK) (el:TypeId) (size:Nat) (C:List AV)
  |map (es:List (AV×AV))
  |iter (m:Option Nat) (n:Nat) (seen:List Nat)
  |eI (nt:Nat) (tm:Tm) (ps:Array Tmp) (x y:Code) (busy:Bool)
  |HX
 abbrev GH:=Nat->Option Gh
def nf (v:AV):Prop:=∀ι ι':En,ak ι v=ak ι' v
def lC (l:List AV):Prop:=∀v∈l,nf v
theorem kL (k:IntKind)(n:Int):nf (.int k n):=fun _ _=>by simp[ak]
theorem lX (b:Bool):nf (.bool b):=fun _ _=>by simp[ak]
theorem iZ (l n:Nat):nf (.str l n):=fun _ _=>by simp[ak]
theorem qy (k:FloatKind)(n:Nat):nf (.float k n):=fun _ _=>by simp[ak]
theorem nV:nf .dY:=fun _ _=>by simp[ak]
theorem lY:nf .ab:=fun _ _=>by simp[ak]
theorem nW:nf .bg:=fun _ _=>by simp[ak]
theorem Ci:nf .cy:=fun _ _=>by simp[ak]
theorem ja (b o l c:Nat):nf (.cN b o l c):=fun _ _=>by simp[ak]
theorem oW (b o:Nat):nf (.cu b o):=fun _ _=>by simp[ak]
theorem xU (b:Nat):nf (.cV b):=fun _ _=>by simp[ak]
theorem HY (b:Nat):nf (.zg b):=fun _ _=>by simp[ak]
theorem lZ {l:List AV}(h:lC l)(ι ι':En):ao ι l=ao ι' l:=by
 rw[jr,jr];exact zav fun v hv=>h v hv ι ι'
theorem xV {l:List AV}(h:lC l):nf (.agg l):=fun ι ι'=>by simp only[ak];rw[lZ h ι ι']
theorem HZ {l:List AV}(h:lC l):nf (.dC l):=fun ι ι'=>by simp only[ak];rw[lZ h ι ι']
theorem qz:nf aE:=HZ (fun v h=>by simp at h)
theorem jt:lC []:=fun v h=>by simp at h
theorem hY {v:AV}{l:List AV}(h:nf v)(hl:lC l):lC (v::l):=fun x hx=>by
 rcases List.mem_cons.1 hx with rfl|hx
 ·exact h
 ·exact hl x hx
theorem iB {a b:List AV}(ha:lC a)(hb:lC b):lC (a++b):=fun x hx=>by
 rcases List.mem_append.1 hx with hx|hx
 ·exact ha x hx
 ·exact hb x hx
theorem AA {l:List AV}(n:Nat)(h:lC l):lC (l.take n):=fun x hx=>h x (zds hx)
theorem AB {l:List AV}(n:Nat)(h:lC l):lC (l.drop n):=fun x hx=>h x (List.mem_of_mem_drop hx)
def qA (B:Nat->Prop)(w:World)(b:Nat):Gh->Prop
 |.cells kd el size C=>lC C/\∃A fz,w.heap[b]?=some (.cells A el fz)/\A.size=size/\C.length<=size/\(∀i,i<C.length->(kd=.raw->C[i]?≠some aE)->∀ι,A[i]?=(C[i]?).map (ak ι))/\(kd≠.raw->¬B b/\fL fz A.size)
 |.map es=>¬B b/\∃(E:Array MapEntry) (clock:Nat),w.heap[b]?=some (.map E clock)/\(∀e∈es,nf e.1/\nf e.2)/\(∀ι,E.toList.map (fun e=>(e.key,e.val))=es.map fun e=>(ak ι e.1,ak ι e.2))/\E.toList.map (fun e=>e.born)=List.range es.length/\clock=es.length
 |.iter m n seen=>¬B b/\w.heap[b]?=some (.mapIter m n seen.toArray n)
 |.eI nt tm ps x y busy=>¬B b/\(∀t,nf (tm.at t))/\∃fnC tmps D,w.heap[b]?=some (.loop { state:=bif busy then .busy else .ready,pending:=none,fn:=fnC,tmps:=tmps,params:=ps,assign:=x,body:=y,defers:=D })/\tmps.size=nt/\∀t ι,tmps.getD t undef=ak ι (tm.at t)
 |.HX=>¬B b/\(w.heap[b]?).isSome=true
def AD (B:Nat->Prop)(G:GH)(w:World):Prop:=∀b g,G b=some g->qA B w b g
def c8 (n0:Nat)(B:Nat->Prop)(w0:World)(nt:Nat)(tm:Tm)(hp:Tr AO)(nx:Pz)(G:GH)(ι:En)(a:Act)(w:World):Prop :=
 Sat B w0 nt tm hp nx ι a w/\AD B G w/\(∀id o,hp.get id=some o->own hp o->G (ι.aS id)=none)/\n0<=w.heap.size/\∀b,b<n0->G b=none->B b
theorem qA.lt {B:Nat->Prop}{w:World}{b:Nat}{g:Gh}(h:qA B w b g):b<w.heap.size:=by
 cases g with
 |cells wr el size C=>obtain⟨_,A,fz,h1,_⟩:=h;exact (Array.getElem?_eq_some_iff.1 h1).1
 |map es=>obtain⟨_,E,clock,h1,_⟩:=h;exact (Array.getElem?_eq_some_iff.1 h1).1
 |iter m n seen=>exact (Array.getElem?_eq_some_iff.1 h.2).1
 |eI nt tm ps x y busy=>obtain⟨_,_,fnC,tmps,D,h,_⟩:=h;exact (Array.getElem?_eq_some_iff.1 h).1
 |HX=>obtain⟨o,ho⟩:=Option.isSome_iff_exists.1 h.2;exact (Array.getElem?_eq_some_iff.1 ho).1
theorem qA.bE {B B':Nat->Prop}{w w':World}{b:Nat}{g:Gh}(h:qA B w b g)(he:w'.heap[b]?=w.heap[b]?)(hB:B' b->B b):qA B' w' b g:=by
 cases g with
 |cells wr el size C =>
  obtain⟨h0,A,fz,h1,h2,h3,h4,h5⟩:=h;exact⟨h0,A,fz,by rw[he];exact h1,h2,h3,h4,fun hw=>⟨fun hb=>(h5 hw).1 (hB hb),(h5 hw).2⟩⟩
 |map es =>
  obtain⟨h0,E,clock,h1,h2⟩:=h;exact⟨fun hb=>h0 (hB hb),E,clock,by rw[he];exact h1,h2⟩
 |iter m n seen=>exact⟨fun hb=>h.1 (hB hb),by rw[he];exact h.2⟩
 |eI nt tm ps x y busy =>
  obtain⟨h0,h1,fnC,tmps,D,h⟩:=h;exact⟨fun hb=>h0 (hB hb),h1,fnC,tmps,D,by rw[he];exact h⟩
 |HX=>exact⟨fun hb=>h.1 (hB hb),by rw[he];exact h.2⟩
def BG (B:Nat->Prop)(G:GH)(b:Nat):Prop:=B b∨(G b).isSome=true
theorem KU {B:Nat->Prop}{G:GH}{w0 w:World}{ι:En}{hp:Tr AO}(hc:Core B w0 ι hp w)(hg:AD B G w)(ho:∀id o,hp.get id=some o->own hp o->G (ι.aS id)=none):Core (BG B G) w ι hp w:=by
 refine⟨Kept.refl _ _,fun k hk=>?_,hc.obj,fun id o hid hown=>?_,hc.sep,hc.e9⟩
 ·rcases hk with hk|hk
  ·exact hc.room k hk
  ·obtain⟨g,hgk⟩:=Option.isSome_iff_exists.1 hk;exact (hg k g hgk).lt
 ·rintro (hb|hb)
  ·exact hc.base id o hid hown hb
  ·rw[ho id o hid hown]at hb;cases hb
theorem H0 {B:Nat->Prop}{G:GH}{w0 w w':World}{ι ι':En}{hp hp':Tr AO}(h0:Core B w0 ι hp w)(hc:Core (BG B G) w ι' hp' w'):Core B w0 ι' hp' w' :=
 ⟨h0.below.trans (hc.below.mono fun k hk=>.inl hk),fun k hk=>hc.room k (.inl hk),hc.obj,fun id o hid ho hb=>hc.base id o hid ho (.inl hb),hc.sep,hc.e9⟩
theorem DP {B:Nat->Prop}{G:GH}{w w':World}(hg:AD B G w)(hk:Kept (BG B G) w w'):AD B G w':=fun b g hb =>
 (hg b g hb).bE (hk.block b (.inr (by rw[hb];rfl))) (fun h=>h)
theorem KV {B:Nat->Prop}{G:GH}{w w':World}{ι':En}{hp':Tr AO}(hc:Core (BG B G) w ι' hp' w'):∀id o,hp'.get id=some o->own hp' o->G (ι'.aS id)=none:=fun id o hid ho=>by
 have:=hc.base id o hid ho;cases hg:G (ι'.aS id)with
 |none=>rfl
 |some g=>exact absurd (Or.inr (by rw[hg];rfl)) this
section
variable {P:Program}{n0 nt:Nat}{tm T:Tm}{hp H:Tr AO}{nx X:Pz}{G G':GH}{B:Nat->Prop}{w0 w w':World}{ι ι2:En}{a a':Act}
theorem KW (h:c8 n0 B w0 nt tm hp nx G ι a w):Sat (BG B G) w nt tm hp nx ι a w:=by
 obtain⟨hs,hg,ho,_⟩:=h;refine⟨hs.1,fun ι' hι=>⟨(hs.2 ι' hι).1,KU (hs.2 ι' hι).2 hg fun id o hid hown=>?_⟩⟩;rw[(hι id (hs.1.lt id o hid)).1];exact ho id o hid hown
theorem H2 (h:c8 n0 B w0 nt tm hp nx G ι a w)(h':Sat (BG B G) w nt T H X ι2 a' w'):c8 n0 B w0 nt T H X G ι2 a' w':=by
 obtain⟨hs,hg,ho,h1,h2⟩:=h;have c0:=(hs.2 ι (al.refl _ _)).2;refine⟨⟨h'.1,fun ι' hι=>⟨(h'.2 ι' hι).1,H0 c0 (h'.2 ι' hι).2⟩⟩,DP hg (h'.2 ι2 (al.refl _ _)).2.below,KV (h'.2 ι2 (al.refl _ _)).2,zam h1 (h'.2 ι2 (al.refl _ _)).2.below.size,h2⟩
def Cj (n0:Nat)(B:Nat->Prop)(w0:World)(nt:Nat)(K:Ex->Tm->Tr AO->Pz->GH->Prop)(Q:Exit->Act->World->Prop):Prop :=
 ∀e tm' hp' nx' G' ι2 a' w',K e tm' hp' nx' G'->c8 n0 B w0 nt tm' hp' nx' G' ι2 a' w'->Q (QY e) a' w'
def dx (P:Program)(n0 nt:Nat)(c:Code)(tm:Tm)(hp:Tr AO)(nx:Pz)(G:GH)(K:Ex->Tm->Tr AO->Pz->GH->Prop):Prop :=
 ∀(r:Option Nat),(r=none∨cQ c=true)->∀(B:Nat->Prop) (w0 w:World) (ι:En) (a:Act),c8 n0 B w0 nt tm hp nx G ι a w->∀(Q:Exit->Act->World->Prop),Cj n0 B w0 nt K Q->c.wpIn (fw r) 0 P Q a w
def ld (P:Program)(n0 nt:Nat)(ops:Array Oper)(i m:Nat)(tm:Tm)(hp:Tr AO)(nx:Pz)(G:GH)(K:Ex->Tm->Tr AO->Pz->GH->Prop):Prop :=
 ∀(r:Option Nat) (B:Nat->Prop) (w0 w:World) (ι:En) (a:Act),c8 n0 B w0 nt tm hp nx G ι a w->∀(Q:Exit->Act->World->Prop),Cj n0 B w0 nt K Q->wpOpsIn (fw r) 0 P ops Q (List.range' i m) a w
def ma (P:Program)(n0 nt:Nat)(c:Code)(m:Nat)(tm:Tm)(hp:Tr AO)(nx:Pz)(G:GH)(K:Ex->Tm->Tr AO->Pz->GH->Prop):Prop :=
 ∀(r:Option Nat),(r=none∨cQ c=true)->∀(B:Nat->Prop) (w0 w:World) (ι:En) (a:Act),c8 n0 B w0 nt tm hp nx G ι a w->∀(Q:Exit->Act->World->Prop),Cj n0 B w0 nt K Q->Code.roundsIn (fw r) 0 P c Q m a w
noncomputable def Q2 (x:Tm->Tr AO->Pz->GH->Prop)(K:Ex->Tm->Tr AO->Pz->GH->Prop)(e:Ex):Tm->Tr AO->Pz->GH->Prop :=
 Ex.rec (motive:=fun _=>Tm->Tr AO->Pz->GH->Prop) x (fun j=>K (.ext j)) (K .ret) e
noncomputable def T7 (id:Nat)(K:Ex->Tm->Tr AO->Pz->GH->Prop)(e:Ex):Tm->Tr AO->Pz->GH->Prop :=
 Ex.rec (motive:=fun _=>Tm->Tr AO->Pz->GH->Prop) (K .eJ) (fun j=>K (if j=id then .eJ else .ext j)) (K .ret) e
variable {c x y:Code}{K:Ex->Tm->Tr AO->Pz->GH->Prop}{ops:Array Oper}{i m:Nat}{call:bP}
theorem wz (h:dx P n0 nt x tm hp nx G (Q2 (fun tm hp nx G=>dx P n0 nt y tm hp nx G K) K)):dx P n0 nt (.seq x y) tm hp nx G K:=by
 intro r hr B w0 w ι a hs Q hn;refine wpIn_seq (h r (hr.imp_right fun h=>by simp only[cQ,za]at h;exact h.1) B w0 w ι a hs _ fun e tm' hp' nx' G' ι2 a' w' hk hs'=>?_);cases e with
 |eJ=>exact hk r (hr.imp_right fun h=>by simp only[cQ,za]at h;exact h.2) B w0 w' ι2 a' hs' _ hn
 |ext id=>exact hn (.ext id) tm' hp' nx' G' ι2 a' w' hk hs'
 |ret=>exact hn .ret tm' hp' nx' G' ι2 a' w' hk hs'
theorem nB {id:Nat}(h:dx P n0 nt x tm hp nx G (T7 id K)):dx P n0 nt (.block id x) tm hp nx G K:=by
 intro r hr B w0 w ι a hs Q hn;refine wpIn_block (h r hr B w0 w ι a hs _ fun e tm' hp' nx' G' ι2 a' w' hk hs'=>?_);cases e with
 |eJ=>exact hn .eJ tm' hp' nx' G' ι2 a' w' hk hs'
 |ext j =>
  show if j=id then Q .normal a' w' else Q (.exit j) a' w'
  have hk:K (if j=id then .eJ else .ext j) tm' hp' nx' G':=hk;split at hk
  ·rename_i hj;rw[if_pos hj];exact hn .eJ tm' hp' nx' G' ι2 a' w' hk hs'
  ·rename_i hj;rw[if_neg hj];exact hn (.ext j) tm' hp' nx' G' ι2 a' w' hk hs'
 |ret=>exact hn .ret tm' hp' nx' G' ι2 a' w' hk hs'
theorem Ck (m:Nat)(h:ma P n0 nt x m tm hp nx G K):dx P n0 nt (.loop x) tm hp nx G K:=fun r hr B w0 w ι a hs Q hn=>wpIn_loop_rounds m (h r hr B w0 w ι a hs Q hn)
theorem AE (h:dx P n0 nt x tm hp nx G (Q2 (fun tm hp nx G=>ma P n0 nt x m tm hp nx G K) K)):ma P n0 nt x (m+1) tm hp nx G K:=by
 intro r hr B w0 w ι a hs Q hn;rw[roundsIn_succ];refine h r hr B w0 w ι a hs _ fun e tm' hp' nx' G' ι2 a' w' hk hs'=>?_;cases e with
 |eJ=>exact hk r hr B w0 w' ι2 a' hs' _ hn
 |ext id=>exact hn (.ext id) tm' hp' nx' G' ι2 a' w' hk hs'
 |ret=>exact hn .ret tm' hp' nx' G' ι2 a' w' hk hs'
theorem dD {K':Ex->Tm->Tr AO->Pz->GH->Prop}(h:dx P n0 nt c tm hp nx G K)(hk:∀e tm hp nx G,K e tm hp nx G->K' e tm hp nx G):dx P n0 nt c tm hp nx G K' :=
 fun r hr B w0 w ι a hs Q hn=>h r hr B w0 w ι a hs Q fun e tm' hp' nx' G' ι2 a' w' hk' hs'=>hn e tm' hp' nx' G' ι2 a' w' (hk _ _ _ _ _ hk') hs'
theorem xW {id:Nat}(hm:ops.size=m)(h:ld P n0 nt ops 0 m tm hp nx G K):dx P n0 nt (.region id ops false) tm hp nx G K:=by
 intro r hr B w0 w ι a hs Q hn;refine wpIn_region ?_;rw[List.range_eq_range',hm];exact h r B w0 w ι a hs Q hn
theorem H3 (h:K .eJ tm hp nx G):ld P n0 nt ops i 0 tm hp nx G K:=fun r B w0 w ι a hs Q hn=>hn .eJ tm hp nx G ι a w h hs
theorem Cl {id:Nat}(h:K (.ext id) tm hp nx G):dx P n0 nt (.exit id) tm hp nx G K:=fun r hr B w0 w ι a hs Q hn=>wpIn_exit (hn (.ext id) tm hp nx G ι a w h hs)
theorem F0 (h:K .ret tm hp nx G):dx P n0 nt .ret tm hp nx G K:=fun r hr B w0 w ι a hs Q hn=>wpIn_ret (hn .ret tm hp nx G ι a w h hs)
theorem Cm (h:K .eJ tm hp nx G):dx P n0 nt .skip tm hp nx G K:=fun r hr B w0 w ι a hs Q hn=>wpIn_skip (hn .eJ tm hp nx G ι a w h hs)
theorem sO {t:Nat}(ht:tm.at t=.bool true)(h:dx P n0 nt x tm hp nx G K):dx P n0 nt (.cond (.tmp t) x y) tm hp nx G K:=fun r hr B w0 w ι a hs Q hn=>wpIn_cond_true (by
  show a.tmps.getD t undef=_
  rw[(hs.1.2 ι (al.refl _ _)).1.val t,ht];rfl) (h r (hr.imp_right fun h=>by simp only[cQ,za]at h;exact h.1) B w0 w ι a hs Q hn)
theorem rj {t:Nat}(ht:tm.at t=.bool false)(h:dx P n0 nt y tm hp nx G K):dx P n0 nt (.cond (.tmp t) x y) tm hp nx G K:=fun r hr B w0 w ι a hs Q hn=>wpIn_cond_false (by
  show a.tmps.getD t undef=_
  rw[(hs.1.2 ι (al.refl _ _)).1.val t,ht];rfl) (h r (hr.imp_right fun h=>by simp only[cQ,za]at h;exact h.2) B w0 w ι a hs Q hn)
end
end Go.aI
namespace Go.aI
open Go.RowKit
section
variable (P:Program)(ops:Array Oper)(aF:List Nat)
def gl (S:Nat->Prop)(i:Nat):Prop:=∀e∈(af ops i).after,Region.binds .any e=true->S e.on
def bf (j i:Nat):Prop:=bit (Region.before ops) j i=true
def lh (h:Nat)(c:Act)(w:World)(K:Act->World->Prop):Prop :=
 (Region.wanted (af ops h) (yielded ops c.tmps)=true/\dh P (execOp c.eval (af ops h)) w (fun cv w'=>K (c.put (af ops h).dst cv) w'))∨
 (Region.wanted (af ops h) (yielded ops c.tmps)=false/\K (c.put (af ops h).dst undef) w)
def Dr (Z:Act->World->Prop)(n:Nat):(Nat->Prop)->(Nat->Prop)->Act->World->Prop :=
 Nat.rec (motive:=fun _=>(Nat->Prop)->(Nat->Prop)->Act->World->Prop) (fun _ _ _ _=>False) (fun _ ih CE CH c w =>
  (∃i v d,i∈aF/\i<ops.size/\¬CE i/\(af ops i).dst=some d/\gl ops (fun j=>CE j∨CH j) i/\Yv P ops (af ops i) c w v/\ih (fun j=>j=i∨CE j) CH (c.put (some d) v) w)∨
  ((∀i∈aF,i<ops.size->¬CE i->¬gl ops (fun j=>CE j∨CH j) i)/\((∀i,i<ops.size->CE i∨CH i)->Z c w) /\
    ∀h,h<ops.size->h∉aF->¬CH h->gl ops (fun j=>CE j∨CH j) h ->
     lh P ops h c w fun c' w'=>(∀i d,CE i->(af ops i).dst=some d->(∀g,(g=h∨CH g)->¬bf ops g i)->Yv P ops (af ops i) c' w' (tv c' d))/\ih CE (fun j=>j=h∨CH j) c' w')) n
structure Lt (nt:Nat):Prop where
 look:∀i,i∈aF->i<ops.size->jF (af ops i)=true/\∃d,(af ops i).dst=some d/\d∉(af ops i).looksAt ops
 GV:∀i,i<ops.size->jF (af ops i)=true
 own:∀i j d,i∈aF->i<ops.size->j<ops.size->i≠j->(af ops i).dst=some d->(af ops j).dst≠some d
 read:∀i j d,j∈aF->i<ops.size->j<ops.size->i≠j->(af ops j).dst=some d->d∈(af ops i).looksAt ops->bf ops i j
 write:∀i h d,i∈aF->h∉aF->i<ops.size->h<ops.size->(af ops h).dst=some d->d∈(af ops i).looksAt ops->bf ops i h∨bf ops h i
 xP:∀i,i<ops.size->∀e∈(af ops i).after,Region.binds .any e=true->e.on<i
 dst:∀i d,i<ops.size->(af ops i).dst=some d->d<nt
end
section
variable {P:Program}{ops:Array Oper}{aF:List Nat}{nt:Nat}
theorem gl.mono {S S':Nat->Prop}{i:Nat}(h:gl ops S i)(hs:∀j,S j->S' j):gl ops S' i:=fun e he hb=>hs _ (h e he hb)
structure Inv (P:Program) (ops:Array Oper) (aF:List Nat) (nt:Nat) (L:Nat->Prop) (a:Act) (CE CH:Nat->Prop) (c:Act) (w:World):Prop where
 DM:∀i,L i->CE i∨CH i
 yX:∀i,L i->i<ops.size
 ce:∀i,CE i->i∈aF/\i<ops.size
 ch:∀h,CH h->h∉aF/\h<ops.size/\L h
 cl:∀i,(CE i∨CH i)->gl ops (fun j=>CE j∨CH j) i
 Q3:∀i,L i->gl ops L i
 Qv:a.tmps.size=nt
 Qw:c.tmps.size=nt
 Tv:a.defers=c.defers
 eq:∀t,(∃i,CE i/\¬L i/\(af ops i).dst=some t)∨tv a t=tv c t
 qs:∀i d,CE i->¬L i->(af ops i).dst=some d->Yv P ops (af ops i) c w (tv c d)
def Q4 (P:Program)(ops:Array Oper)(aF:List Nat)(Z:Act->World->Prop)(f:Nat)(CE CH:Nat->Prop)(c:Act)(w:World):Prop :=
 (∀i∈aF,i<ops.size->¬CE i->¬gl ops (fun j=>CE j∨CH j) i)/\((∀i,i<ops.size->CE i∨CH i)->Z c w) /\
   ∀h,h<ops.size->h∉aF->¬CH h->gl ops (fun j=>CE j∨CH j) h ->
    lh P ops h c w fun c' w'=>(∀i d,CE i->(af ops i).dst=some d->(∀g,(g=h∨CH g)->¬bf ops g i)->Yv P ops (af ops i) c' w' (tv c' d))/\Dr P ops aF Z f CE (fun j=>j=h∨CH j) c' w'
theorem H4 {S:Nat->Prop}(hlim:∀i,S i->i<ops.size)(hS:∀i,S i->gl ops S i){j i:Nat}(hj:S j)(hb:bf ops j i):S i:=by
 refine gR S (fun i o ho hi e he hbi=>?_) j i hj hb;have hlt:=hlim i hi;have:o=af ops i:=by have:=j6 hlt;rw[ho]at this;exact Option.some.inj this
 subst this;exact hS i hi e he hbi
theorem advance (hl:Lt ops aF nt){Z:Act->World->Prop}{L CH:Nat->Prop}{a:Act}{w:World}:∀(f:Nat)(CE:Nat->Prop)(c:Act),Dr P ops aF Z f CE CH c w->Inv P ops aF nt L a CE CH c w ->
  ∃f' CE' c',Q4 P ops aF Z f' CE' CH c' w/\Inv P ops aF nt L a CE' CH c' w
 |0,CE,c,h,_=>h.elim
 |f+1,CE,c,h,hi=>by
  rcases h with ⟨i,v,d,h1,h2,h3,h4,h5,h6,h7⟩|h
  ·have hnL:¬L i:=fun hL=>by
     rcases hi.DM i hL with h|h
     ·exact h3 h
     ·exact (hi.ch i h).1 h1
   have hd:d<c.tmps.size:=by rw[hi.Qw];exact hl.dst i d h2 h4
   refine advance hl f _ _ h7 ⟨fun j hj=>?_,hi.yX,fun j hj=>?_,hi.ch,fun j hj=>?_,hi.Q3,hi.Qv,by rw[jI];exact hi.Qw,by rw[put_defers];exact hi.Tv,fun t=>?_,fun j e hj hnj hje=>?_⟩
   ·rcases hi.DM j hj with h|h
    ·exact .inl (.inr h)
    ·exact .inr h
   ·rcases hj with rfl|hj
    ·exact⟨h1,h2⟩
    ·exact hi.ce j hj
   ·rcases hj with (rfl|hj)|hj
    ·exact h5.mono fun k hk=>hk.imp .inr id
    ·exact (hi.cl j (.inl hj)).mono fun k hk=>hk.imp .inr id
    ·exact (hi.cl j (.inr hj)).mono fun k hk=>hk.imp .inr id
   ·by_cases ht:t=d
    ·subst ht;exact .inl ⟨i,.inl rfl,hnL,h4⟩
    ·rcases hi.eq t with ⟨j,q1,q2,q3⟩|hq
     ·exact .inl ⟨j,.inr q1,q2,q3⟩
     ·right;rw[hq,iY hd,if_neg ht]
   ·rcases hj with rfl|hj
    ·rw[h4]at hje;cases hje;rw[iY hd,if_pos rfl];obtain⟨p1,d',p2,p3⟩:=hl.look j h1 h2;rw[h4]at p2;cases p2;refine h6.same p1 fun t ht=>?_;rw[iY hd,if_neg (by intro e;subst e;exact p3 ht)]
    ·have hne:j≠i:=fun e=>h3 (e▸hj);have hjl:=hi.ce j hj;have hed:e≠d:=fun he=>by subst he;exact hl.own i j e h1 h2 hjl.2 hne.symm h4 hje
     rw[iY hd,if_neg hed];refine (hi.qs j e hj hnj hje).same (hl.look j hjl.1 hjl.2).1 fun t ht=>?_;rw[iY hd,if_neg]
     rintro rfl
     have hb:=hl.read j i t h1 hjl.2 h2 hne h4 ht;have:=H4 (S:=fun k=>CE k∨CH k) (fun k hk=>hk.elim (fun h=>(hi.ce k h).2) (fun h=>(hi.ch k h).2.1)) hi.cl (.inl hj) hb;rcases this with h|h
     ·exact h3 h
     ·exact (hi.ch i h).1 h1
  ·exact⟨f,CE,c,h,hi⟩
theorem AF (hl:Lt ops aF nt){L CE CH:Nat->Prop}{a c:Act}{w:World}(hi:Inv P ops aF nt L a CE CH c w){i:Nat}(hlt:i<ops.size)(hdeps:gl ops L i)(hn:¬L i):∀t∈(af ops i).looksAt ops,tv c t=tv a t:=by
 intro t ht;rcases hi.eq t with ⟨j,q1,q2,q3⟩|hq
 ·exfalso;have hj:=hi.ce j q1;by_cases hne:i=j
  ·subst hne;obtain⟨p1,d',p2,p3⟩:=hl.look i hj.1 hj.2;rw[q3]at p2;cases p2;exact p3 ht
  ·have hb:=hl.read i j t hj.1 hlt hj.2 hne q3 ht
   have:=H4 (S:=fun k=>k=i∨L k) (fun k hk=>hk.elim (fun h=>h▸hlt) (hi.yX k)) (fun k hk=>by
    rcases hk with rfl|hk
    ·exact hdeps.mono fun _ h=>.inr h
    ·exact (hi.Q3 k hk).mono fun _ h=>.inr h) (.inl rfl) hb
   rcases this with h|h
   ·exact hne h.symm
   ·exact q2 h
 ·exact hq.symm
def JD (P:Program)(ops:Array Oper)(aF:List Nat)(nt:Nat)(Z:Act->World->Prop)(L:Nat->Prop)(a:Act)(w:World):Prop :=
 ∃f CE CH c,Q4 P ops aF Z f CE CH c w/\Inv P ops aF nt L a CE CH c w
theorem OH {a c:Act}(h1:a.tmps.size=c.tmps.size)(h2:a.defers=c.defers)(h:∀t,tv a t=tv c t):a=c:=by
 obtain⟨t1,d1⟩:=a;obtain⟨t2,d2⟩:=c;simp only at h1 h2;subst h2
 have:t1=t2:=by
  refine Array.ext h1 fun i hi1 hi2=>?_;have:=h i;unfold tv at this;simp only[zah,zbe hi1,zbe hi2,zca]at this;exact this
 subst this;rfl
theorem H5 (hl:Lt ops aF nt){Z:Act->World->Prop}{L:Nat->Prop}{a:Act}{w:World}{i:Nat}(hj:JD P ops aF nt Z L a w)(hlt:i<ops.size)(hn:¬L i)(hdeps:gl ops L i)(hi:i∈aF) :
  ∃v,Yv P ops (af ops i) a w v/\JD P ops aF nt Z (fun j=>j=i∨L j) (a.put (af ops i).dst v) w:=by
 obtain⟨f,CE,CH,c,hs,hv⟩:=hj;have hce:CE i:=Classical.byContradiction fun h=>hs.1 i hi hlt h (hdeps.mono fun j hj=>hv.DM j hj);obtain⟨p1,d,p2,p3⟩:=hl.look i hi hlt;have hy:=hv.qs i d hce hn p2;have hd:d<a.tmps.size:=by rw[hv.Qv];exact hl.dst i d hlt p2
 refine⟨tv c d,hy.same p1 (AF hl hv hlt hdeps hn),f,CE,CH,c,hs,⟨fun j hj=>?_,fun j hj=>?_,hv.ce,fun h hh=>?_,hv.cl,fun j hj=>?_,by rw[jI];exact hv.Qv,hv.Qw,by rw[put_defers];exact hv.Tv,fun t=>?_,fun j e hj hnj hje=>?_⟩⟩
 ·rcases hj with rfl|hj
  ·exact .inl hce
  ·exact hv.DM j hj
 ·rcases hj with rfl|hj
  ·exact hlt
  ·exact hv.yX j hj
 ·obtain⟨q1,q2,q3⟩:=hv.ch h hh;exact⟨q1,q2,.inr q3⟩
 ·rcases hj with rfl|hj
  ·exact hdeps.mono fun _ h=>.inr h
  ·exact (hv.Q3 j hj).mono fun _ h=>.inr h
 ·rw[p2];by_cases ht:t=d
  ·subst ht;right;rw[iY hd,if_pos rfl]
  ·rw[iY hd,if_neg ht];rcases hv.eq t with ⟨j,q1,q2,q3⟩|hq
   ·refine .inl ⟨j,q1,?_,q3⟩
    rintro (rfl|h)
    ·rw[p2]at q3;cases q3;exact ht rfl
    ·exact q2 h
   ·exact .inr hq
 ·exact hv.qs j e hj (fun h=>hnj (.inr h)) hje
theorem lh.same (hl:Lt ops aF nt){h:Nat}(hlt:h<ops.size){a c:Act}{w:World}(he:∀t∈(af ops h).looksAt ops,tv c t=tv a t){K K':Act->World->Prop}(hk:lh P ops h c w K)
  (hkk:∀cv w',K (c.put (af ops h).dst cv) w'->K' (a.put (af ops h).dst cv) w'):lh P ops h a w K':=by
 unfold lh at hk ⊢;rw[<-gQ (hl.GV h hlt) he,<-nz he];rcases hk with ⟨h1,h2⟩|⟨h1,h2⟩
 ·exact .inl ⟨h1,h2.mono fun cv w' g=>hkk cv w' g⟩
 ·exact .inr ⟨h1,hkk _ _ h2⟩
theorem H6 (hl:Lt ops aF nt){Z:Act->World->Prop}{L:Nat->Prop}{a:Act}{w:World}{h:Nat}(hj:JD P ops aF nt Z L a w)(hlt:h<ops.size)(hn:¬L h)(hdeps:gl ops L h)(hi:h∉aF) :
  lh P ops h a w fun a' w'=>JD P ops aF nt Z (fun j=>j=h∨L j) a' w':=by
 obtain⟨f,CE,CH,c,hs,hv⟩:=hj;have hnc:¬CH h:=fun hc=>hn (hv.ch h hc).2.2;refine (hs.2.2 h hlt hi hnc (hdeps.mono fun j hj=>hv.DM j hj)).same hl hlt (AF hl hv hlt hdeps hn) fun cv w' ⟨hre,hdr⟩=>?_
 have hinv:Inv P ops aF nt (fun j=>j=h∨L j) (a.put (af ops h).dst cv) CE (fun j=>j=h∨CH j) (c.put (af ops h).dst cv) w':=by
  refine⟨fun j hj=>?_,fun j hj=>?_,hv.ce,fun g hg=>?_,fun j hj=>?_,fun j hj=>?_,by rw[jI];exact hv.Qv,by rw[jI];exact hv.Qw,by rw[put_defers,put_defers];exact hv.Tv,fun t=>?_,fun j e hj hnj hje=>?_⟩
  ·rcases hj with rfl|hj
   ·exact .inr (.inl rfl)
   ·exact (hv.DM j hj).imp id .inr
  ·rcases hj with rfl|hj
   ·exact hlt
   ·exact hv.yX j hj
  ·rcases hg with rfl|hg
   ·exact⟨hi,hlt,.inl rfl⟩
   ·obtain⟨q1,q2,q3⟩:=hv.ch g hg;exact⟨q1,q2,.inr q3⟩
  ·rcases hj with hj|rfl|hj
   ·exact (hv.cl j (.inl hj)).mono fun k hk=>hk.imp id .inr
   ·exact hdeps.mono fun k hk=>(hv.DM k hk).imp id .inr
   ·exact (hv.cl j (.inr hj)).mono fun k hk=>hk.imp id .inr
  ·rcases hj with rfl|hj
   ·exact hdeps.mono fun _ h=>.inr h
   ·exact (hv.Q3 j hj).mono fun _ h=>.inr h
  ·cases hdst:(af ops h).dst with
   |none =>
    rw[si,si];rcases hv.eq t with ⟨j,q1,q2,q3⟩|hq
    ·refine .inl ⟨j,q1,?_,q3⟩
     rintro (rfl|hL)
     ·exact hi (hv.ce j q1).1
     ·exact q2 hL
    ·exact .inr hq
   |some d =>
    have hd:=hl.dst h d hlt hdst;rw[iY (by rw[hv.Qv];exact hd),iY (by rw[hv.Qw];exact hd)];by_cases ht:t=d
    ·rw[if_pos ht,if_pos ht];exact .inr rfl
    ·rw[if_neg ht,if_neg ht];rcases hv.eq t with ⟨j,q1,q2,q3⟩|hq
     ·refine .inl ⟨j,q1,?_,q3⟩
      rintro (rfl|hL)
      ·exact hi (hv.ce j q1).1
      ·exact q2 hL
     ·exact .inr hq
  ·refine hre j e hj hje fun g hg hb=>hnj ?_
   have hgL:(fun k=>k=h∨L k) g:=by
    rcases hg with rfl|hg
    ·exact .inl rfl
    ·exact .inr (hv.ch g hg).2.2
   exact H4 (S:=fun k=>k=h∨L k) (fun k hk=>hk.elim (fun e=>e▸hlt) (hv.yX k)) (fun k hk=>by
    rcases hk with rfl|hk
    ·exact hdeps.mono fun _ h=>.inr h
    ·exact (hv.Q3 k hk).mono fun _ h=>.inr h) hgL hb
 obtain⟨f',CE',c',h1,h2⟩:=advance hl f CE _ hdr hinv;exact⟨f',CE',_,c',h1,h2⟩
theorem lh.wp {r:Option Nat}{i:Nat}(hi:i<ops.size){a:Act}{w:World}{K:Act->World->Prop}{Q:Exit->Act->World->Prop}(h:lh P ops i a w K):wpOpIn (fw r) 0 P ops Q i K a w:=by
 unfold wpOpIn;rw[j6 hi];simp only;rcases h with ⟨h1,h2⟩|⟨h1,h2⟩
 ·rw[if_pos h1];exact dh.wp h2 fun _ _ h=>h
 ·rw[if_neg (by rw[h1];decide)];exact⟨fun _ _=>trivial,h2⟩
theorem OI {r:Option Nat}(hl:Lt ops aF nt){Q:Exit->Act->World->Prop}:∀(fuel:Nat)(listed:Array Bool)(a:Act)(w:World),listed.size=ops.size->listed.toList.count false<=fuel ->
  JD P ops aF nt (Q .normal) (fun i=>listed.getD i false=true) a w->wpAnyIn (fw r) 0 P .any ops Q fuel listed a w:=by
 have endq:∀(listed:Array Bool) (a:Act) (w:World),listed.size=ops.size->JD P ops aF nt (Q .normal) (fun i=>listed.getD i false=true) a w->Region.ready .any ops listed=[]->Q .normal a w:=by
  intro listed a w hsz hj hrd
  have all:∀i,i<ops.size->listed.getD i false=true:=by
   intro i hi
   induction i using Nat.strongRecOn with
   |ind i ih =>
    rcases Bool.eq_false_or_eq_true (listed.getD i false)with h|h
    ·exact h
    ·exfalso
     have hmem:i∈Region.ready .any ops listed:=by
      rw[mem_ready];refine⟨?_,af ops i,j6 hi,fun e he hb=>ih e.on (hl.xP i hi e he hb) (by have:=hl.xP i hi e he hb;omega)⟩;rw[zah,zbe (by omega)]at h ⊢;exact h
     rw[hrd]at hmem;simp at hmem
  obtain⟨f,CE,CH,c,hs,hv⟩:=hj;have hZ:=hs.2.1 fun i hi=>hv.DM i (all i hi)
  have:a=c:=OH (by rw[hv.Qv,hv.Qw]) hv.Tv fun t=>by
   rcases hv.eq t with ⟨j,q1,q2,q3⟩|hq
   ·exact absurd (all j (hv.ce j q1).2) q2
   ·exact hq
  rw[this];exact hZ
 intro fuel
 induction fuel with
 |zero =>
  intro listed a w hsz hc hh
  have hrd:Region.ready .any ops listed=[]:=by
   apply List.eq_nil_iff_forall_not_mem.2;intro j hj;rw[mem_ready]at hj;obtain⟨h1,_⟩:=hj
   have hlt:j<listed.size:=by
    rcases zdp j listed.size with h|h
    ·exact h
    ·rw[zah,zed h]at h1;cases h1
   have:false∈listed.toList:=by
    rw[zah,zbe hlt]at h1;simp only[zca]at h1;rw[<-h1];exact Array.getElem_mem_toList hlt
   have:=List.count_pos_iff.2 this;omega
  exact⟨hrd,endq listed a w hsz hh hrd⟩
 |succ fuel ih =>
  intro listed a w hsz hc hh;refine⟨endq listed a w hsz hh,fun i hi=>?_⟩;rw[mem_ready]at hi;obtain⟨h1,o,ho,hpre⟩:=hi;have hlt:i<ops.size:=(Array.getElem?_eq_some_iff.1 ho).1;have hio:o=af ops i:=by have:=j6 hlt;rw[ho]at this;exact Option.some.inj this
  subst hio;have hlt':i<listed.size:=by omega
  have hLi:¬listed.getD i false=true:=by
   rw[zah,zbe hlt']at h1 ⊢;simp only[zca]at h1 ⊢;rw[h1];decide
  have hcount:(listed.setIfInBounds i true).toList.count false<=fuel:=by
   have hf:listed.toList[i]'(by simpa using hlt')=false:=by
    rw[zah,zbe hlt']at h1;simpa using h1
   have h2:(listed.toList.set i true).count false=listed.toList.count false-1:=by
    rw[List.count_set (by simpa using hlt')];simp[hf]
   have h3:0<listed.toList.count false:=List.count_pos_iff.2 (by rw[<-hf];exact zdb _);rw[Array.toList_setIfInBounds,h2];omega
  have hsz':(listed.setIfInBounds i true).size=ops.size:=by simpa using hsz
  have next:∀a' w',JD P ops aF nt (Q .normal) (fun j=>j=i∨listed.getD j false=true) a' w'->wpAnyIn (fw r) 0 P .any ops Q fuel (listed.setIfInBounds i true) a' w':=by
   intro a' w' h;refine ih _ a' w' hsz' hcount ?_;have e:(fun j=>(listed.setIfInBounds i true).getD j false=true)=fun j=>j=i∨listed.getD j false=true:=funext fun j=>M5 hlt';rw[e];exact h
  by_cases hli:i∈aF
  ·obtain⟨v,hy,h2⟩:=H5 hl hh hlt hLi hpre hli;exact hy.wp ho (next _ _ h2)
  ·have:=H6 hl hh hlt hLi hpre hli;refine lh.wp hlt ?_;rcases this with ⟨p1,p2⟩|⟨p1,p2⟩
   ·exact .inl ⟨p1,p2.mono fun cv w' g=>next _ _ g⟩
   ·exact .inr ⟨p1,next _ _ p2⟩
theorem KY {r:Option Nat}(hm:P.follows .mixedOrders=true)(hl:Lt ops aF nt){id:Nat}{Q:Exit->Act->World->Prop}{a:Act}{w:World}(hsz:a.tmps.size=nt){f:Nat}
  (h:Dr P ops aF (Q .normal) f (fun _=>False) (fun _=>False) a w.drew):(Code.region id ops true).wpIn (fw r) 0 P Q a w:=by
 refine wpIn_region_any hm ?_
 have no:∀i,¬(Array.replicate ops.size false).getD i false=true:=by
  intro i hi;rw[zah,zdw]at hi;split at hi<;>cases hi
 refine OI hl ops.size _ a w.drew (by simp) (by simp) ?_
 have hinv:Inv P ops aF nt (fun i=>(Array.replicate ops.size false).getD i false=true) a (fun _=>False) (fun _=>False) a w.drew :=
  ⟨fun i hi=>absurd hi (no i),fun i hi=>absurd hi (no i),fun i hi=>hi.elim,fun i hi=>hi.elim,fun i hi=>(by rcases hi with h|h<;>exact h.elim),fun i hi=>absurd hi (no i),hsz,hsz,rfl,fun t=>.inr rfl,fun i d hi=>hi.elim⟩
 obtain⟨f',CE',c',h1,h2⟩:=advance hl f _ _ h hinv;exact⟨f',CE',_,c',h1,h2⟩
end
end Go.aI
namespace Go.aI
open Go.RowKit
section
variable {P:Program}{n0 nt:Nat}{T T2:Tm}{hp H:Tr AO}{nx X:Pz}{G:GH}{ops:Array Oper}{aF:List Nat}{i m d:Nat}{v:AV}{call:bP}
theorem Cn {B:Nat->Prop}{w0 w:World}{ι ι':En}{a:Act}(h:c8 n0 B w0 nt T hp nx G ι a w)(hι:al nx ι ι'):c8 n0 B w0 nt T hp nx G ι' a w :=
 ⟨⟨h.1.1,fun ι2 h2=>h.1.2 ι2 (hι.trans h2 (zad _))⟩,h.2.1,(fun id o hid ho=>by rw[(hι id (h.1.1.lt id o hid)).1];exact h.2.2.1 id o hid ho),h.2.2.2⟩
def bq (P:Program)(ops:Array Oper)(n0 nt i:Nat)(T:Tm)(hp:Tr AO)(nx:Pz)(G:GH)(v:AV):Prop :=
 ∀B w0 ι a w,c8 n0 B w0 nt T hp nx G ι a w->Yv P ops (af ops i) a w (ak ι v)
theorem bq.put {B:Nat->Prop}{w0 w:World}{ι:En}{a:Act}(h:bq P ops n0 nt i T hp nx G v)(hd:d<nt)(hs:c8 n0 B w0 nt T hp nx G ι a w):c8 n0 B w0 nt (T.put d v) hp nx G ι (a.put (some d) (ak ι v)) w:=by
 refine⟨⟨hs.1.1,fun ι' hι=>⟨?_,(hs.1.2 ι' hι).2⟩⟩,hs.2.1,hs.2.2⟩;exact kY (hs.1.2 ι' hι).1 hd ((h B w0 ι a w hs).Oz (h B w0 ι' a w (Cn hs hι)))
def gm (P:Program)(n0 nt:Nat)(ops:Array Oper)(i:Nat)(T:Tm)(hp:Tr AO)(nx:Pz)(G:GH)(R:Tm->Tr AO->Pz->GH->Prop):Prop :=
 ∀B w0 ι a w,c8 n0 B w0 nt T hp nx G ι a w->lh P ops i a w fun a' w'=>∃T' hp' nx' G' ι2,R T' hp' nx' G'/\c8 n0 B w0 nt T' hp' nx' G' ι2 a' w'
theorem Yv.step {o:Oper}{a:Act}{w:World}{cv:Value}(ho:af ops i=o)(h:Yv P ops o a w cv){K:Act->World->Prop}(hk:K (a.put o.dst cv) w):lh P ops i a w K:=by
 subst ho;rcases h with ⟨h1,h2⟩|⟨h1,rfl⟩
 ·exact .inl ⟨h1,.inl ⟨cv,w,.inl h2,hk⟩⟩
 ·exact .inr ⟨h1,hk⟩
theorem bq.st (h:bq P ops n0 nt i T hp nx G v)(hd:(af ops i).dst=some d)(hlt:d<nt){R:Tm->Tr AO->Pz->GH->Prop}(hr:R (T.put d v) hp nx G):gm P n0 nt ops i T hp nx G R:=by
 intro B w0 ι a w hs;refine Yv.step rfl (h B w0 ι a w hs) ⟨_,_,_,_,ι,hr,?_⟩;rw[hd];exact h.put hlt hs
theorem gm.mono {R R':Tm->Tr AO->Pz->GH->Prop}(h:gm P n0 nt ops i T hp nx G R)(hr:∀T hp nx G,R T hp nx G->R' T hp nx G):gm P n0 nt ops i T hp nx G R':=by
 intro B w0 ι a w hs;have:=h B w0 ι a w hs;rcases this with ⟨h1,h2⟩|⟨h1,T',hp',nx',G',ι2,g1,g2⟩
 ·exact .inl ⟨h1,h2.mono fun cv w' ⟨T',hp',nx',G',ι2,g1,g2⟩=>⟨T',hp',nx',G',ι2,hr _ _ _ _ g1,g2⟩⟩
 ·exact .inr ⟨h1,T',hp',nx',G',ι2,hr _ _ _ _ g1,g2⟩
theorem KZ {K:Ex->Tm->Tr AO->Pz->GH->Prop}(hi:i<ops.size)(h:gm P n0 nt ops i T hp nx G fun T' hp' nx' G'=>ld P n0 nt ops (i+1) m T' hp' nx' G' K):ld P n0 nt ops i (m+1) T hp nx G K:=by
 intro r B w0 w ι a hs Q hn;rw[List.range'_succ,wpOpsIn_cons];refine lh.wp hi ?_
 have h2:∀a' w',(∃T' hp' nx' G' ι2,ld P n0 nt ops (i+1) m T' hp' nx' G' K/\c8 n0 B w0 nt T' hp' nx' G' ι2 a' w')->wpOpsIn (fw r) 0 P ops Q (List.range' (i+1) m) a' w' :=
  fun a' w' ⟨T',hp',nx',G',ι2,g1,g4⟩=>g1 r B w0 w' ι2 a' g4 Q hn
 rcases h B w0 ι a w hs with ⟨p1,p2⟩|⟨p1,p2⟩
 ·exact .inl ⟨p1,p2.mono fun cv w' g=>h2 _ _ g⟩
 ·exact .inr ⟨p1,h2 _ _ p2⟩
def Ka (P:Program)(n0 nt:Nat)(ops:Array Oper)(aF:List Nat)(f:Nat)(ce ch:List Nat)(T:Tm)(hp:Tr AO)(nx:Pz)(G:GH)(K:Tm->Tr AO->Pz->GH->Prop):Prop :=
 ∀B w0 ι a w,c8 n0 B w0 nt T hp nx G ι a w->∀Z:Act->World->Prop,(∀T' hp' nx' G' ι2 a' w',K T' hp' nx' G'->c8 n0 B w0 nt T' hp' nx' G' ι2 a' w'->Z a' w') ->
  Dr P ops aF Z f (fun j=>j∈ce) (fun j=>j∈ch) a w
def uq (ops:Array Oper)(l:List Nat)(i:Nat):Bool:=(af ops i).after.all fun e=>!Region.binds .any e||l.contains e.on
theorem H7 {l:List Nat}{S:Nat->Prop}(hS:∀j,j∈l->S j)(h:uq ops l i=true):gl ops S i:=by
 intro e he hb;have:=Array.all_eq_true'.1 h e he;rw[hb]at this;exact hS _ (by simpa using this)
theorem AG {l:List Nat}{S:Nat->Prop}(hS:∀j,S j->j∈l)(h:gl ops S i):uq ops l i=true:=by
 refine Array.all_eq_true'.2 fun e he=>?_;cases hb:Region.binds .any e with
 |false=>rfl
 |true=>simpa using hS _ (h e he hb)
def H8 (ops:Array Oper)(aF ce ch:List Nat):List Nat:=(List.range ops.size).filter fun i=>aF.contains i&&(!ce.contains i&&uq ops (ce++ch) i)
def wA (ops:Array Oper)(aF ce ch:List Nat):List Nat:=(List.range ops.size).filter fun i=>!aF.contains i&&(!ch.contains i&&uq ops (ce++ch) i)
def H9 (ops:Array Oper)(ce ch:List Nat):Bool:=(List.range ops.size).all fun i=>ce.contains i||ch.contains i
def xX (ops:Array Oper)(ce ch:List Nat):List Nat:=ce.filter fun i=>ch.all fun g=>!bit (Region.before ops) g i
variable {f:Nat}{ce ch:List Nat}{K:Tm->Tr AO->Pz->GH->Prop}
theorem F1 (hm:(aF.contains i&&(!ce.contains i&&(Nat.blt i ops.size&&uq ops (ce++ch) i)))=true)(h:bq P ops n0 nt i T hp nx G v)(hd:(af ops i).dst=some d)(hlt:d<nt)
  (hg:Ka P n0 nt ops aF f (i::ce) ch (T.put d v) hp nx G K):Ka P n0 nt ops aF (f+1) ce ch T hp nx G K:=by
 intro B w0 ι a w hs Z hz;simp only[za,zaj,zbn]at hm;obtain⟨h1,h2,h3,h4⟩:=hm;have h2:i∉ce:=fun hc=>by rw[<-zbn]at hc;rw[hc]at h2;cases h2
 refine .inl ⟨i,ak ι v,d,h1,av h3,h2,hd,H7 (fun j hj=>List.mem_append.1 hj) h4,h B w0 ι a w hs,?_⟩;have:=hg B w0 ι _ w (h.put hlt hs) Z hz;have e:(fun j=>j∈i::ce)=fun j=>j=i∨j∈ce:=funext fun j=>by simp
 rw[e]at this;exact this
theorem K0 (hm:H9 ops ce ch=true)(hm2:((List.range ops.size).all fun i=>!aF.contains i||ce.contains i)=true)(hm3:((List.range ops.size).all fun i=>aF.contains i||ch.contains i)=true)(hk:K T hp nx G):Ka P n0 nt ops aF (f+1) ce ch T hp nx G K:=by
 intro B w0 ι a w hs Z hz;rw[zb]at hm2 hm3;refine .inr ⟨fun i hi hlt hc hd=>?_,fun _=>hz T hp nx G ι a w hk hs,fun g hlt hl hc hd=>?_⟩
 ·have:=hm2 i (List.mem_range.2 hlt);simp[hi,hc]at this
 ·have:=hm3 g (List.mem_range.2 hlt);simp[hl,hc]at this
end
end Go.aI
