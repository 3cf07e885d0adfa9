/- Part Xac of the proof of OverlapEnds: no condition. -/
import Derived.ChangeSame
import Derived.Test.YtmabojcaklojhaaGreatXab
import Derived.Test.YtmabojcaklojhaaGreatXaa
set_option linter.unusedSimpArgs false
set_option linter.unusedVariables false
namespace Go.aK
open Go.RowKit
section
variable {P:Program}{call:bH}
theorem lT {o:AO}{kk:Nat->Nat->Tm->Array Tmp->Code->Code->LS->Rs}(h:lF o kk=.ok):∃f nt tm ps x y st,o=.loop f nt tm ps x y st/\kk f nt tm ps x y st=.ok:=by
 cases o with
 |loop f nt tm ps x y st=>exact⟨f,nt,tm,ps,x,y,st,rfl,h⟩
 |_=>cases h
theorem B3 {st:LS}{r:Rs}(h:isReady st r=.ok):st=.ready/\r=.ok:=by
 cases st with
 |ready=>exact⟨rfl,h⟩
 |_=>cases h
theorem uf {id:Pz}{st:LS}{hp:Tr AO}{k:Tr AO->Rs}(h:iK id st hp k=.ok):∃f nt tm ps x y st0,hp.get id=some (.loop f nt tm ps x y st0)/\k (hp.set id (.loop f nt tm ps x y st))=.ok:=by
 obtain⟨o,ho,h⟩:=dm h;obtain⟨f,nt,tm,ps,x,y,st0,rfl,g⟩:=lT h;rw[Tr.cK]at g;exact⟨f,nt,tm,ps,x,y,st0,ho,g⟩
theorem ug {nt:Nat}{k:Tm->Rs}:∀(ps:List Tmp)(vs:List AV)(tm:Tm),xg nt ps vs tm k=.ok->∃tm',k tm'=.ok/\tm'.ml=tm.ml/\ps.length=vs.length /\
  ∀ι (tmps:Array Value),tmps.size=nt->(∀t,tmps.getD t undef=ak ι (tm.at t))->((ps.zip (aq ι vs)).foldl (fun t (p:Tmp×Value)=>t.setIfInBounds p.1 p.2) tmps).size=nt/\∀t,((ps.zip (aq ι vs)).foldl (fun t (p:Tmp×Value)=>t.setIfInBounds p.1 p.2) tmps).getD t undef=ak ι (tm'.at t)
 | [],[],tm,h=>⟨tm,h,rfl,rfl,fun ι tmps h1 h2=>⟨h1,h2⟩⟩
 | [],_::_,tm,h=>by cases h
 |_::_,[],tm,h=>by cases h
 |p::ps,v::vs,tm,h=>by
  have h:bM (Nat.blt p nt) ((ve p).run tm v fun tm=>xg nt ps vs tm k) (.bad 286)=.ok:=h;obtain⟨hp,h⟩:=aJ h;have hp:=ax hp;rw[nN]at h;obtain⟨tm',hk,hml,hl,hrest⟩:=ug ps vs _ h;refine⟨tm',hk,by rw[hml,Tm.tF],by simp[hl],fun ι tmps h1 h2=>?_⟩;simp only[aq,List.zip_cons_cons,List.foldl_cons];refine hrest ι _ (by rw[zdh];exact h1) fun t=>?_;rw[tZ _ _ _ _ _ (by rw[h1];exact hp)];by_cases ht:t=p
  ·subst ht;rw[if_pos rfl,Tm.gP]
  ·rw[if_neg ht,Tm.jw ht];exact h2 t
theorem z0 {B:Nat->Prop}{w0 w:World}{hp:Tr AO}{nx:Pz}{ι:En}{id:Pz}{f nt:Nat}{tm:Tm}{ps:Array Tmp}{x y:Code}{st0:LS}(hw:Wf hp nx)(ho:hp.get id=some (.loop f nt tm ps x y st0))(hc:∀ι',ao nx ι ι'->Core B w0 ι' hp w)(st:LS) :
  ∃r:Loop,w.heap[ι.aY id]?=some (.loop r)/\r.state=vh st0/\r.pending=oV st0/\Wf (hp.set id (.loop f nt tm ps x y st)) nx/\∀ι',ao nx ι ι'->Core B w0 ι' (hp.set id (.loop f nt tm ps x y st)) (w.putObj (ι.aY id) (.loop { r with state:=vh st,pending:=oV st })):=by
 obtain⟨fnC,tmps,D,h1,h2,h3,h4⟩:=(hc ι (ao.refl _ _)).obj _ _ ho;have hlt:ι.aY id<w.heap.size:=(Array.getElem?_eq_some_iff.1 h1).1;refine⟨_,h1,rfl,rfl,ql hw ho rfl (fun _ _ h=>by cases h) rfl (fun _ _ h=>by cases h),fun ι' hι=>?_⟩;have c1:=hc ι' hι;have hbi:=(hι id (hw.lt _ _ ho)).1;have hbase:=c1.base _ _ ho trivial;rw[hbi]at hbase;obtain⟨fnC',tmps',D',q1,q2,q3,q4⟩:=c1.obj _ _ ho;rw[hbi,h1]at q1;cases q1;have hoth:∀b,b≠ι'.aY id->(w.putObj (ι.aY id) (.loop { state:=vh st,pending:=oV st,fn:=fnC,tmps:=tmps,params:=ps,assign:=x,body:=y,defers:=D })).heap[b]?=w.heap[b]?:=fun b hbne=>World.putObj_heap_other (fun e=>hbne (by rw[hbi];exact e));refine kW ho rfl (fun _ _ h=>by cases h) rfl (fun _ _ h=>by cases h) c1 (c1.below.trans ⟨rfl,rfl,rfl,by simp,fun b hb'=>hoth b (fun e=>hbase (by rw[<-hbi,<-e];exact hb'))⟩) (fun k hk=>by simp;exact c1.room k hk) hoth ?_;exact⟨fnC,tmps,D,by rw[hbi];exact World.putObj_heap_same hlt,q2,q3,q4⟩
theorem Hm (hcode:Hi P call):Dw P call:=by
 intro j vs hp nx k h B w0 w ι cargs hw hc G hG;have hpred:Nat.pred j=j-1:=rfl;unfold xh at h;rw[hpred]at h;generalize hid:bj (j-1)=id at h ⊢;obtain⟨o,ho,h⟩:=dm h;obtain⟨f,nt,tm,ps,x,y,st,rfl,g⟩:=lT h;obtain⟨hno,g⟩:=aJ g;rw[za]at hno;obtain⟨tm',g,hml,hlen,hpar⟩:=ug _ _ _ g;have hidlt:=hw.lt _ _ ho;have hc0:=fun ι' hι=>(hc ι' hι).1;obtain⟨fnC,tmps,D,h1,h2,h3,h4⟩:=(hc0 ι (ao.refl _ _)).obj _ _ ho;have hcargs:∀ι',ao nx ι ι'->cargs=(aq ι' vs).toArray:=fun ι' hι=>(hc ι' hι).2
 have hfold:∀ι',ao nx ι ι'->(ps.zip cargs).foldl (fun tmps (t,a)=>tmps.setIfInBounds t a) tmps=(ps.toList.zip (aq ι' vs)).foldl (fun t (p:Tmp×Value)=>t.setIfInBounds p.1 p.2) tmps:=fun ι' hι=>by
  rw[hcargs ι' hι,<-zdi,Array.toList_zip]
 have hsat:Sat B w0 nt tm' hp nx ι { tmps:=(ps.zip cargs).foldl (fun tmps (t,a)=>tmps.setIfInBounds t a) tmps,defers:=[] } w:=by
  refine⟨hw,fun ι' hι=>⟨?_,hc0 ι' hι⟩⟩;obtain⟨fnC',tmps',D',q1,q2,q3,q4⟩:=(hc0 ι' hι).obj _ _ ho;rw[(hι id hidlt).1,h1]at q1;cases q1;obtain⟨e1,e2⟩:=hpar ι' tmps q2 q4;refine⟨?_,by rw[hml,q3];rfl,fun t=>?_⟩
  ·show ((ps.zip cargs).foldl _ tmps).size=nt;rw[hfold ι' hι];exact e1
  ·show ((ps.zip cargs).foldl _ tmps).getD t undef=_;rw[hfold ι' hι];exact e2 t
 have hrun:=run_yield (P:=P) (args:=cargs) h1 (by rw[hcargs ι (ao.refl _ _)];simp[aw,<-hlen]);refine .inr (.inr ⟨_,_,_,_,_,w,hrun,roundIn_of_wpIn (F:=Fence.wide) (n:=0) trivial ?_⟩);refine hcode f nt x tm' hp nx _ g hno.1 (ι.aY id) B w0 w ι _ hsat _ (fun e tm1 hp1 nx1 ι1 a1 w1 hk1 hle1 ha1 hs1=>?_);cases e with
 |ext i=>cases hk1
 |ret=>cases hk1
 |gE =>
  have hk1:hp1.gx id (.bad 284) (fun o=>lF o fun _ _ _ _ _ _ st=>isReady st (iK id .busy hp1 fun hp =>
    call.code f nt y tm1 hp nx1 fun e _ hp nx=>Ex.rec (motive:=fun _=>Rs)
     (iK id .ready hp fun hp=>k (.bool true) hp nx)
     (fun i=>iK id (.done (.ext i)) hp fun hp=>k (.bool false) hp nx)
     (iK id (.done .ret) hp fun hp=>k (.bool false) hp nx) e))=.ok:=hk1
  obtain⟨o1,ho1,hk1⟩:=dm hk1;obtain⟨f1,nt1,tmx,ps1,x1,y1,st1,rfl,g1⟩:=lT hk1;obtain⟨rfl,g1⟩:=B3 g1;obtain⟨f2,nt2,tm2,ps2,x2,y2,st2,ho2,g2⟩:=uf g1;rw[ho1]at ho2;cases ho2;have hb1:ι1.aY id=ι.aY id:=(ha1 id hidlt).1;obtain⟨r,r1,r2,r3,hw2,hc2⟩:=z0 hs1.1 ho1 (fun ι' hι=>(hs1.2 ι' hι).2) .busy;rw[hb1]at r1 hc2;have hbeg:=run_beginRound (P:=P) r1 r2
  have hreq:({ r with state:=vh .busy,pending:=oV .busy }:Loop)={ r with state:=.busy }:=by
   have:r.pending=none:=r3;rw[this];rfl
  rw[hreq]at hc2;refine⟨_,hbeg,?_⟩;refine hcode f nt y tm1 _ nx1 _ g2 hno.2 (ι.aY id) B w0 _ ι1 a1 ⟨hw2,fun ι' hι=>⟨(hs1.2 ι' hι).1,hc2 ι' hι⟩⟩ _ (fun e tm3 hp3 nx3 ι3 a3 w3 hk3 hle3 ha3 hs3=>?_);have hb3:ι3.aY id=ι.aY id:=((ha1.trans ha3 hle1) id hidlt).1
  have fin:∀(st:LS) (jump:Option Code) (b:Bool),vh st=(if jump.isNone then .ready else .done)->oV st=jump->jump.isNone=b->iK id st hp3 (fun hp=>k (.bool b) hp nx3)=.ok ->
    ∃v w4,(Instr.endRound (ι.aY id) jump).run P w3=.ok v w4/\∃cv,Ending.returned v=.returned cv/\G cv w4:=by
   intro st jump b e1 e2 e3 hl;obtain⟨f4,nt4,tm4,ps4,x4,y4,st4,ho4,g4⟩:=uf hl;obtain⟨r',q1,q2,q3,hw4,hc4⟩:=z0 hs3.1 ho4 (fun ι' hι=>(hs3.2 ι' hι).2) st;rw[hb3]at q1 hc4;rw[e1,e2]at hc4;refine⟨_,_,run_endRound jump q1,.bool b,by rw[e3],?_⟩;exact hG (.bool b) _ nx3 ι3 _ _ g4 hw4 (zay hle1 hle3) (ha1.trans ha3 hle1) fun ι' hι=>⟨hc4 ι' hι,by simp[ak]⟩
  cases e with
  |gE=>exact fin .ready none true rfl rfl rfl hk3
  |ext i=>exact fin (.done (.ext i)) (some (.exit i)) false rfl rfl rfl hk3
  |ret=>exact fin (.done .ret) (some .ret) false rfl rfl rfl hk3
theorem Fz {B:Nat->Prop}{w0 w:World}{hp:Tr AO}{nx:Pz}{ι:En}{id:Pz}{f nt:Nat}{tm:Tm}{ps:Array Tmp}{x y:Code}{st0:LS}(hw:Wf hp nx)(ho:hp.get id=some (.loop f nt tm ps x y st0))(hc:∀ι',ao nx ι ι'->Core B w0 ι' hp w) :
  ∃r:Loop,w.heap[ι.aY id]?=some (.loop r)/\r.state=vh st0/\r.pending=oV st0/\Wf (hp.set id .gone) nx/\∀o ι',ao nx ι ι'->Core B w0 ι' (hp.set id .gone) (w.putObj (ι.aY id) o):=by
 obtain⟨fnC,tmps,D,h1,h2,h3,h4⟩:=(hc ι (ao.refl _ _)).obj _ _ ho;have hlt:ι.aY id<w.heap.size:=(Array.getElem?_eq_some_iff.1 h1).1;refine⟨_,h1,rfl,rfl,ql hw ho rfl (fun _ _ h=>by cases h) rfl (fun _ _ h=>by cases h),fun o ι' hι=>?_⟩;have c1:=hc ι' hι;have hbi:=(hι id (hw.lt _ _ ho)).1;have hbase:=c1.base _ _ ho trivial;rw[hbi]at hbase;have hoth:∀b,b≠ι'.aY id->(w.putObj (ι.aY id) o).heap[b]?=w.heap[b]?:=fun b hbne=>World.putObj_heap_other (fun e=>hbne (by rw[hbi];exact e));refine kW ho rfl (fun _ _ h=>by cases h) rfl (fun _ _ h=>by cases h) c1 (c1.below.trans ⟨rfl,rfl,rfl,by simp,fun b hb'=>hoth b (fun e=>hbase (by rw[<-hbi,<-e];exact hb'))⟩) (fun k hk=>by simp;exact c1.room k hk) hoth ?_;show ((w.putObj (ι.aY id) o).heap[ι'.aY id]?).isSome=true;rw[hbi,World.putObj_heap_same hlt];rfl
theorem FA (p:Pz):iy p=p.num:=by
 induction p with
 |h=>rfl
 |o p ih=>show 2*iy p=2*p.num;rw[ih]
 |i p ih=>show 2*iy p+1=2*p.num+1;rw[ih]
theorem xH (p:Pz):bj (p.num-1)=p:=by
 have:=Pz.pV p;apply Pz.Dm;have h:=oS (p.num-1+1) (p.num-1+1) (by omega) (by omega);unfold bj;rw[h];omega
theorem FC {g:Nat}(h:BP P g=true):∃fn,P.funcs[g]?=some fn/\fn.body.isNone=false/\(fn.name == "runtime.NumGoroutine")=false:=by
 unfold BP at h;cases hf:P.funcs[g]? with
 |none=>rw[hf]at h;cases h
 |some fn =>
  rw[hf]at h;simp only[za,zam]at h;exact⟨fn,rfl,h.1,h.2⟩
theorem z7 {f:Nat}{fn:Func}{args:Array Value}{w:World}{G:Value->World->Prop}(hf:P.funcs[f]?=some fn)(hb:fn.body.isNone=false)(hn:(fn.name == "runtime.NumGoroutine")=false)(h:dU P (callFunc f args) w G) :
  (callFunc f args).run P w=.ok (.enter f args) w/\Calls P f args w fun e w'=>∃cv,e=.returned cv/\G cv w':=by
 have hrun:(callFunc f args).run P w=.ok (.enter f args) w:=by
  simp only[callFunc,Sem.run_bind,run_program,Result.andThen_ok,hf,hn,hb,zaf,if_false,Sem.run_pure]
 refine⟨hrun,?_⟩;rcases h with ⟨cv,w',h|⟨h,_⟩,_⟩|⟨f',args',w',h,hc⟩|⟨l,f',tmps,x,y,w',h,_⟩
 ·rw[hrun]at h;cases h
 ·rw[hrun]at h;cases h
 ·rw[hrun]at h;cases h;exact hc
 ·rw[hrun]at h;cases h
theorem z8 (hcall:oY P call):xz P call:=by
 intro fid nt g ps x y tm hp nx K h Kl hny B w0 w ι a hs Q hn;unfold oR at h;obtain⟨fv,h,hfv⟩:=aQ h;cases fv with
 |func fn first captured =>
  cases fn with
  |func gf =>
   cases first with
   |cons v vs=>cases h
   |nil =>
    obtain⟨hbd,g1⟩:=aJ h;obtain⟨fn,q1,q2,q3⟩:=FC hbd;rw[cW]at g1;rw[cW]at g1;refine wpIn_rangeFunc fun fnC _=>?_;obtain⟨rec,hrec⟩:∃rec:Loop,rec={ state:=.ready,pending:=none,fn:=fnC,tmps:=a.tmps,params:=ps,assign:=x,body:=y,defers:=w.heap.size }:=⟨_,rfl⟩;obtain⟨w1,hw1⟩:∃w1,w1=w.alloc (.deferred (some [])):=⟨_,rfl⟩;obtain⟨w2,hw2⟩:∃w2,w2=w1.alloc (.loop rec):=⟨_,rfl⟩;have hsz1:w1.heap.size=w.heap.size+1:=by rw[hw1];simp
    obtain⟨ι2,hι2⟩:∃ι2,ι2=(ι.at nx w.heap.size 0 0).at nx.succ (w.heap.size+1) 0 0:=⟨_,rfl⟩
    have hnames:∀ι',ao nx.succ.succ ι2 ι'->ao nx ι ι'/\ι'.aY nx=w.heap.size/\ι'.aY nx.succ=w.heap.size+1:=fun ι' hι=>by
     rw[hι2]at hι;obtain⟨p1,p2,_,_⟩:=eR hι;obtain⟨p3,p4,_,_⟩:=eR p1;exact⟨p3,p4,p2⟩
    have hcore:∀ι',ao nx.succ.succ ι2 ι'->Core B w0 ι' ((hp.set nx .gv).set nx.succ (.loop fid nt ⟨tm.lo,tm.hi,[]⟩ ps x y .ready)) w2:=fun ι' hι=>by
     obtain⟨n1,n2,n3⟩:=hnames ι' hι;obtain⟨t1,c1⟩:=hs.2 ι' n1
     have d1:Core B w0 ι' (hp.set nx .gv) w1:=by
      rw[hw1];refine tH hs.1 c1 n2 rfl (fun _ _ h=>by cases h) ?_;show (w.alloc (.deferred (some []))).heap[ι'.aY nx]?=_;rw[n2];exact cb _ _
     rw[hw2];refine tH (tI hs.1 rfl (fun _ _ h=>by cases h)) d1 (by rw[n3,hsz1]) rfl (fun _ _ h=>by cases h) ?_;refine⟨fnC,a.tmps,w.heap.size,?_,t1.size,rfl,fun t=>t1.val t⟩;rw[n3,<-hsz1,cb,hrec];rfl
    have hwf:Wf ((hp.set nx .gv).set nx.succ (.loop fid nt ⟨tm.lo,tm.hi,[]⟩ ps x y .ready)) nx.succ.succ:=tI (tI hs.1 rfl (fun _ _ h=>by cases h)) rfl (fun _ _ h=>by cases h)
    have hcapt:∀ι',ao nx ι ι'->aq ι' captured=aq ι captured:=fun ι' hι=>by
     obtain⟨t1,_⟩:=hs.2 ι (ao.refl _ _);obtain⟨t2,_⟩:=hs.2 ι' hι;have e1:=hfv ι nt a t1;have e2:=hfv ι' nt a t2;rw[e1]at e2;simp only[ak,Value.func.injEq,Array.mk.injEq,true_and]at e2;exact e2.2.symm.elim (fun p _=>p.symm)
    have hargs:∀ι',ao nx.succ.succ ι2 ι'->(#[Value.func (.yield (w.heap.size+1)) #[] #[]]++(aq ι captured).toArray)=(aq ι' (.func (.yield (iy nx.succ)) [] []::captured)).toArray:=fun ι' hι=>by
     obtain⟨n1,n2,n3⟩:=hnames ι' hι;simp only[aq,ak,kR,FA,xH,n3,hcapt ι' n1];simp
    have hev:a.eval g=.func (.func gf) #[] (aq ι captured).toArray:=by
     obtain⟨t1,_⟩:=hs.2 ι (ao.refl _ _);rw[hfv ι nt a t1];simp[ak,kR,aq]
    obtain⟨G,hG⟩:∃G:Value->World->Prop,G=fun _ w'=>∃v hp' nx' ι3,(hp'.gx nx.succ (.bad 284) fun o=>lF o fun _ _ _ _ _ _ st=>hp'.du nx.succ .gone fun hp =>
      LS.rec (motive:=fun _=>Rs) (K .gE ⟨tm.lo,tm.hi,nx::tm.ml⟩ hp nx') (.bad 287) (fun e=>Ex.rec (motive:=fun _=>Rs) (.bad 287) (fun i=>K (.ext i) ⟨tm.lo,tm.hi,nx::tm.ml⟩ hp nx') (K .ret ⟨tm.lo,tm.hi,nx::tm.ml⟩ hp nx') e) st)=.ok /\
       Wf hp' nx'/\nx.succ.succ.num<=nx'.num/\ao nx.succ.succ ι2 ι3/\(∀ι',ao nx' ι3 ι'->Core B w0 ι' hp' w')/\v=(v:AV):=⟨_,rfl⟩
    obtain⟨hrun,hcalls⟩:=z7 q1 q2 q3 (hcall.1 gf _ _ _ _ g1 B w0 w2 ι2 _ hwf (fun ι' hι=>⟨hcore ι' hι,hargs ι' hι⟩) G (fun v hp' nx' ι3 cv w' k1 k2 k3 k4 k5=>by
     rw[hG]
     exact⟨v,hp',nx',ι3,k1,k2,k3,k4,fun ι' hι=>(k5 ι' hι).1,rfl⟩))
    refine⟨w.heap.size+1,[{ target:=.collected w.heap.size,args:=#[] }],w2,{ target:=.fn (.func gf) (aq ι captured).toArray,args:=#[.func (.yield (w.heap.size+1)) #[] #[]] },w2,gf,#[Value.func (.yield (w.heap.size+1)) #[] #[]]++(aq ι captured).toArray,w2,?_,?_,fun _ _=>trivial,?_,tO,?_⟩
    ·have:=run_enterLoop_outer (P:=P) (w:=w) fnC a.tmps ps x y;rw[hw2,hw1,hrec];exact this
    ·simp only[resolve,rangeCall,hev,Deferred.ofValue,Sem.run_pure];simp[Act.eval]
    ·simp only[invoke];exact hrun
    ·refine CallsIn.mono (zp hcalls none _) fun e w3 he=>?_;obtain⟨cv,rfl,hg⟩:=he;rw[hG]at hg;obtain⟨v,hp',nx',ι3,k1,k2,k3,k4,k5,_⟩:=hg;obtain⟨o,ho,k1⟩:=dm k1;obtain⟨f4,nt4,tm4,ps4,x4,y4,st,rfl,k6⟩:=lT k1;rw[Tr.cK]at k6;obtain⟨r,r1,r2,r3,hwf3,hc3⟩:=Fz k2 ho k5;obtain⟨n1,n2,n3⟩:=hnames ι3 k4;rw[n3]at r1 hc3;have hle:nx.num<=nx'.num:=by rw[Pz.cE,Pz.cE]at k3;omega
     have hsat:∀o,Sat B w0 nt ⟨tm.lo,tm.hi,nx::tm.ml⟩ (hp'.set nx.succ .gone) nx' ι3 { a with defers:=[{ target:=.collected w.heap.size,args:=#[] }]++a.defers } (w3.putObj (w.heap.size+1) o):=fun o=>by
      refine⟨hwf3,fun ι' hι=>⟨?_,hc3 o ι' hι⟩⟩;have hag:ao nx.succ.succ ι2 ι':=k4.trans hι k3;obtain⟨m1,m2,m3⟩:=hnames ι' hag;obtain⟨t1,_⟩:=hs.2 ι' m1;refine⟨t1.size,?_,fun t=>t1.val t⟩;show [{ target:=.collected w.heap.size,args:=#[] }]++a.defers=marks ι' (nx::tm.ml);rw[t1.defers];simp only[marks,zal,m2,GY];rfl
     cases st with
     |busy=>cases k6
     |ready =>
      refine⟨_,_,run_endLoop r1 (by rw[r2];simp[vh]),?_⟩;rw[r3];exact hn .gE _ _ nx' ι3 _ _ k6 hle n1 (hsat _)
     |done e =>
      cases e with
      |gE=>cases k6
      |ext i =>
       refine⟨_,_,run_endLoop r1 (by rw[r2];simp[vh]),?_⟩;rw[r3];exact wpIn_exit (hn (.ext i) _ _ nx' ι3 _ _ k6 hle n1 (hsat _))
      |ret =>
       refine⟨_,_,run_endLoop r1 (by rw[r2];simp[vh]),?_⟩;rw[r3];exact wpIn_ret (hn .ret _ _ nx' ι3 _ _ k6 hle n1 (hsat _))
  |_=>cases h
 |_=>cases h
end
end Go.aK
namespace Go.aK
open Go.RowKit
section
variable {P:Program}{o:Oper}{tm:Tm}{hp:Tr AO}{nx:Pz}{k:AV->Tr AO->Pz->Rs}{call:bH}
theorem aP {n:Nat}{p:Prop}(h:(dD n).run call tm hp nx k=.ok):p:=by cases h
theorem uh (hl:fQ P o=true)(h:(yW P o).run call tm hp nx k=.ok):dz P o tm hp nx k:=by
 unfold fQ at hl;unfold yW at h;cases cR:o.op with
 |move x=>rw[cR]at h;exact Dt (.inl cR) h
 |assign x=>rw[cR]at h;exact Dt (.inr cR) h
 |pick c x y=>rw[cR]at h;exact J8 cR h
 |build t ps =>
  rw[cR]at h;simp only at h;split at h
  ·rename_i hz hu;split at h
   ·rename_i hp';exact Fi cR hz hu hp' h
   ·exact aP h
  ·rename_i hz hu;split at h
   ·rename_i hi;exact Fj cR hz hu hi h
   ·exact aP h
  ·exact aP h
 |load t x =>
  rw[cR]at h;simp only at h;split at h
  ·rename_i hk ht;exact zy cR ht h
  ·rename_i hk ht;exact zB cR hk ht h
  ·exact aP h
 |nilCheck x =>
  rw[cR]at h
  obtain⟨v,h,hv⟩:=aQ (tm:=tm) (k:=fun v=>MK v (.bad 136) (fun p o=>k (.ptr p o) hp nx) fun f a b=>match f with
   |.func f=>k (.func (.func f) a b) hp nx
   |_=>.bad 136) h
  cases v with
  |ptr p q=>exact bJ (fun B w0 ι nt a w ha hcc=>by simp only[execOp,cR];rw[hv ι nt a ha];simp[ak]) h
  |func fn u1 u2 =>
   cases fn with
   |func f=>exact bJ (v:=.func (.func f) u1 u2) (fun B w0 ι nt a w ha hcc=>by simp only[execOp,cR];rw[hv ι nt a ha];simp[ak,kR]) h
   |_=>cases h
  |_=>cases h
 |binOp op t x y yt =>
  rw[cR]at h;simp only at h;split at h
  ·rename_i hg;exact Hb cR hg h
  ·exact aP h
 |unOp op t x=>rw[cR]at h;exact Ka cR h
 |makeFunc fn a b =>
  rw[cR]at h;simp only at h;split at h
  ·rename_i hfn;exact zt hfn cR h
  ·exact aP h
 |fieldAddr t x f =>
  rw[cR]at h;simp only at h;split at h
  ·rename_i hf;split at h
   ·rename_i hz;exact xt cR hf hz h
   ·exact aP h
  ·exact aP h
 |field t x f =>
  rw[cR]at h;simp only at h;split at h
  ·rename_i hf;split at h
   ·exact aP h
   ·rename_i hk ht;obtain⟨v,h,hv⟩:=aQ (tm:=tm) h;cases v with
    |agg cs =>
     obtain⟨h1,h⟩:=mP _ h;obtain⟨h2,h⟩:=mN _ h;exact zs cR hf hv (tR ht) h
    |_=>cases h
   ·rename_i hk ht;obtain⟨v,h,hv⟩:=aQ (tm:=tm) h;cases v with
    |agg cs =>
     obtain⟨u,hu,h⟩:=nO _ h;exact zs cR hf hv (nh hk ht hu) h
    |_=>cases h
  ·exact aP h
 |indexAddr t x i =>
  rw[cR]at h;simp only at h;split at h
  ·rename_i hu;split at h
   ·rename_i hi;exact vl cR hu ⟨_,hi⟩ h
   ·exact aP h
  ·rename_i hu;split at h
   ·rename_i hi;exact zC cR hu ⟨_,hi⟩ h
   ·exact aP h
  ·exact aP h
 |index t x i =>
  rw[cR]at h;simp only at h;split at h
  ·rename_i hu;simp only[vM]at h;exact zD cR hu h
  ·exact aP h
 |lookup t m i ok =>
  rw[cR]at h;simp only[Df]at h;split at h
  ·rename_i hu;split at h
   ·rename_i hz;exact Fu cR hu hz h
   ·exact aP h
  ·exact aP h
 |makeInterface t x =>
  rw[cR]at h;simp only at h;split at h
  ·exact aP h
  ·rename_i d hni hu;exact xu cR hu (fun ms e=>hni ms e) h
  ·exact aP h
 |extract x i =>
  rw[cR]at h;simp only[Fc]at h;exact BS cR h
 |convert s t x =>
  rw[cR]at h hl;simp only[Dd]at h hl;split at hl
  ·rename_i hs ht;rw[hs,ht]at h;exact BX cR hs ht h
  ·rename_i hs ht;rw[hs,ht]at h;exact BZ cR hs ht h
  ·rename_i hs ht;rw[hs,ht]at h;simp only at h;split at h
   ·rename_i he;exact xE cR hs ht he h
   ·exact aP h
  ·cases hl
 |slice t x lo hi mx =>
  rw[cR]at h hl;cases mx with
  |some m=>cases hl
  |none =>
   simp only[BH]at h hl;split at hl
   ·rename_i hu;rw[hu]at h;simp only[vM]at h;exact zO cR hu h
   ·cases hl
 |call c =>
  rw[cR]at h hl;simp only[GQ]at h hl;split at hl
  ·rename_i hc;rw[hc]at h;generalize hats:c.argTypes.toList=ats at h;generalize hx:c.args.toList=xs at h
   match ats,xs,hats,hx,h with
   |t::ts,[x],hats,hx,h=>exact PF (ats:=#[]) cR hc hats hx h
   | [],_,_,_,h=>cases h
   |_::_,[],_,_,h=>cases h
   |_::_,_::_::_,_,_,h=>cases h
  ·rename_i hc;rw[hc]at h;generalize hats:c.argTypes.toList=ats at h;generalize hx:c.args.toList=xs at h
   match ats,xs,hats,hx,h with
   |_,[x,y],hats,hx,h=>exact Hk (mx:=false) cR hc hx h
   | [],[],_,_,h=>cases h
   |_::_,[],_,_,h=>cases h
   | [],[_],_,_,h=>cases h
   |_::_,[_],_,_,h=>cases h
   | [],_::_::_::_,_,_,h=>cases h
   |_::_,_::_::_::_,_,_,h=>cases h
  ·rename_i hc;rw[hc]at h;generalize hats:c.argTypes.toList=ats at h;generalize hx:c.args.toList=xs at h
   match ats,xs,hats,hx,h with
   |_,[x,y],hats,hx,h=>exact Hk (mx:=true) cR hc hx h
   | [],[],_,_,h=>cases h
   |_::_,[],_,_,h=>cases h
   | [],[_],_,_,h=>cases h
   |_::_,[_],_,_,h=>cases h
   | [],_::_::_::_,_,_,h=>cases h
   |_::_,_::_::_::_,_,_,h=>cases h
  ·cases hl
 |_=>rw[cR]at hl;cases hl
theorem Hn (hl:vg P o=true)(h:(yW P o).run call tm hp nx k=.ok):rZ P o tm hp nx k:=by
 unfold vg at hl;unfold yW at h;cases cR:o.op with
 |alloc e =>
  rw[cR]at h;simp only at h;split at h
  ·rename_i hz;exact Hd cR hz h
  ·exact aP h
 |box e x=>rw[cR]at h;exact PE cR h
 |buildSlice t len ps =>
  rw[cR]at h;simp only at h;split at h
  ·rename_i hu;split at h
   ·rename_i hz;split at h
    ·rename_i hg;exact vm cR hu hz hg h
    ·exact aP h
   ·exact aP h
  ·exact aP h
 |makeMap t r =>
  rw[cR]at h;cases r with
  |some r=>exact aP h
  |none=>exact BT cR (fun ι nt a w ha=>rfl) h
 |_=>rw[cR]at hl;cases hl
def IsPure (b:OB):Prop:=(∃f,b=dT f)∨∃n,b=dD n
theorem Ho (hl:g8 P o=true):IsPure (yW P o):=by
 unfold g8 at hl;unfold yW;cases cR:o.op<;>rw[cR]at hl<;>simp only[Dd]at hl ⊢
 all_goals first|(cases hl;done)|skip
 all_goals repeat' (first|exact .inl ⟨_,rfl⟩|exact .inr ⟨_,rfl⟩|split)
 all_goals simp_all
theorem z9 (hl:g8 P o=true):fQ P o=true:=by
 unfold g8 at hl;unfold fQ;cases cR:o.op<;>rw[cR]at hl<;>simp only at hl ⊢
 all_goals first|(cases hl;done)|skip
 all_goals (split at hl<;>simp_all)
theorem Km (hl:g8 P o=true)(h:(yW P o).run call tm hp nx k=.ok):∃v,k v hp nx=.ok/\gK P o tm .e v:=by
 have he:(yW P o).run call tm .e nx (fun v _ _=>k v hp nx)=.ok:=by
  rcases Ho hl with ⟨f,hf⟩|⟨n,hf⟩
  ·rw[hf]at h ⊢;exact h
  ·rw[hf]at h;exact aP h
 exact uh (z9 hl) he
theorem PI (hcall:oY P call):oD P call:=by
 intro o tm hp nx k h;cases hl:fQ P o with
 |true=>exact (uh hl h).to
 |false =>
  cases hn:vg P o with
  |true=>exact (Hn hn h).to
  |false =>
   unfold yW at h;cases cR:o.op with
   |store t a x =>
    rw[cR]at h;simp only at h;split at h
    ·rename_i hi;exact Hc cR h ⟨_,hi⟩
    ·exact aP h
   |makeSlice t l c =>
    rw[cR]at h;simp only at h;split at h
    ·rename_i hu;split at h
     ·rename_i hz;split at h
      ·rename_i hg;exact (xw cR hu hz hg h).to
      ·exact aP h
     ·exact aP h
    ·exact aP h
   |mapUpdate t m i x =>
    rw[cR]at h;simp only[xf]at h;split at h
    ·rename_i hu;exact wa (.inl cR) hu h
    ·exact aP h
   |insert t m i x =>
    rw[cR]at h;simp only[xf]at h;split at h
    ·rename_i hu;exact wa (.inr cR) hu h
    ·exact aP h
   |mapEntry t m i =>
    rw[cR]at h;simp only[GO]at h;split at h
    ·rename_i hu;split at h
     ·rename_i hz;exact Hj cR hu hz h
     ·exact aP h
    ·exact aP h
   |entryStore t m s x=>rw[cR]at h;exact vo cR h
   |range t x=>rw[cR]at h;exact Fy cR h
   |next it Wu =>
    rw[cR]at h;cases Wu with
    |true=>exact aP h
    |false=>exact Hl cR h
   |entry it=>rw[cR]at h;exact zZ cR h
   |convert s t x =>
    rw[cR]at h;simp only[Dd]at h;simp only[fQ,cR]at hl;split at h
    ·rename_i hs ht;rw[hs,ht]at hl;cases hl
    ·rename_i hs ht;rw[hs,ht]at hl;cases hl
    ·rename_i hs ht;split at h
     ·rename_i he;exact ua cR hs ht he h
     ·exact aP h
    ·rename_i hs ht;split at h
     ·rename_i he;exact zX cR hs ht he h
     ·exact aP h
    ·rename_i hs ht;rw[hs,ht]at hl;cases hl
    ·exact aP h
   |slice t x lo hi mx =>
    rw[cR]at h;simp only[BH]at h;split at h
    ·rename_i hu;cases mx with
     |none=>simp only[fQ,cR,hu]at hl;cases hl
     |some m=>exact aP h
    ·rename_i el hu;split at h
     ·exact aP h
     ·exact aP h
     ·rename_i hi' hmx;have hmx:mx=none:=by cases mx with|none=>rfl|some m=>cases hmx
      subst hmx;obtain⟨v,h,hv⟩:=aQ (tm:=tm) h;cases v with
      |slice id off len cap=>exact (BV cR hu ⟨_,hi'⟩ hv h).to
      |bw id off len skip=>exact BW cR hu ⟨_,hi'⟩ hv h
      |ab=>exact (zP cR hu ⟨_,hi'⟩ hv h).to
      |_=>cases h
    ·exact aP h
   |call c =>
    rw[cR]at h;simp only[GQ]at h;simp only[fQ,cR]at hl;split at h
    ·rename_i b hc;rw[hc]at hl;generalize hats:c.argTypes.toList=ats at h;generalize hx:c.args.toList=xs at h;unfold yV at h;split at h
     ·cases hl
     ·rename_i ts tx s x;split at h
      ·exact aP h
      ·rename_i e d hni hts htx;split at h
       ·rename_i z hz;split at h
        ·rename_i hg;exact xy cR hc hats hx hts htx (fun kd e=>hni kd e) hz hg (fun v id off len skip ls h1 h2 h3 h4 h5=>zL cR hc hats hx hts htx (fun kd e=>hni kd e) hz hg v id off len skip ls h1 h2 h3 h4 h5) h
        ·exact aP h
       ·exact aP h
      ·exact aP h
     ·cases hl
     ·cases hl
     ·rename_i t ts m i;simp only[Dh]at h;split at h
      ·rename_i hu;exact Fw cR hc hats hx hu h
      ·exact aP h
     ·exact aP h
    ·rename_i f hc;exact Ki hcall (Hm hcall.2) cR hc h
    ·exact aP h
   |alloc=>simp only[vg,cR]at hn;cases hn
   |box=>simp only[vg,cR]at hn;cases hn
   |buildSlice=>simp only[vg,cR]at hn;cases hn
   |makeMap=>simp only[vg,cR]at hn;cases hn
   |_=>first|(simp only[fQ,cR]at hl;cases hl;done)|(rw[cR]at h;exact aP h)
end
end Go.aK
namespace Go.aK
open Go.RowKit
def tv (a:Act)(t:Nat):Value:=a.tmps.getD t undef
theorem jd {a:Act}{d:Nat}(hd:d<a.tmps.size)(v:Value)(t:Nat):tv (a.put (some d) v) t=if t=d then v else tv a t:=tZ _ _ _ _ _ hd
theorem sf (a:Act)(v:Value)(t:Nat):tv (a.put none v) t=tv a t:=rfl
theorem jE (a:Act)(d:Option Tmp)(v:Value):(a.put d v).tmps.size=a.tmps.size:=by cases d<;>simp[Act.put]
theorem put_defers (a:Act)(d:Option Tmp)(v:Value):(a.put d v).defers=a.defers:=by cases d<;>rfl
section
variable {P:Program}{ops:Array Oper}
theorem gW {o:Oper}(hs:jB o=true){a a':Act}(h:∀t∈o.looksAt ops,tv a t=tv a' t):execOp a.eval o=execOp a'.eval o:=by
 refine execOp_congr o (fun cs b e=>by unfold jB at hs;rw[e]at hs;cases hs) (fun x hx=>?_);cases x with
 |tmp t=>exact h t (zbz _ (List.mem_filterMap.2 ⟨.tmp t,by simpa using hx,rfl⟩))
 |_=>rfl
theorem xI {a a':Act}{j:Nat}(h:∀t,(ops[j]?).bind (·.dst)=some t->tv a t=tv a' t):yielded ops a.tmps j=yielded ops a'.tmps j:=by
 unfold yielded;cases ho:(ops[j]?).bind (·.dst)with
 |none=>rfl
 |some t =>
  have e:=h t ho;unfold tv at e;rw[zah,zah]at e;simp only[zcr];cases h1:a.tmps[t]? with
  |none =>
   cases h2:a'.tmps[t]? with
   |none=>rfl
   |some v=>rw[h1,h2]at e;simp only[Option.getD_none,zcb]at e;rw[<-e];rfl
  |some v =>
   cases h2:a'.tmps[t]? with
   |none=>rw[h1,h2]at e;simp only[Option.getD_none,zcb]at e;rw[e];rfl
   |some u=>rw[h1,h2]at e;simp only[zcb]at e;rw[e]
theorem ny {o:Oper}{a a':Act}(h:∀t∈o.looksAt ops,tv a t=tv a' t):Region.wanted o (yielded ops a.tmps)=Region.wanted o (yielded ops a'.tmps):=by
 unfold Region.wanted;cases hg:o.guard with
 |none=>rfl
 |some g =>
  obtain⟨j,want⟩:=g;simp only;rw[xI (a:=a) (a':=a') fun t ht=>h t (zbx _ (by rw[hg];simp[ht]))]
def Yv (P:Program)(ops:Array Oper)(o:Oper)(a:Act)(w:World)(cv:Value):Prop :=
 (Region.wanted o (yielded ops a.tmps)=true/\(execOp a.eval o).run P w=.ok (.value cv) w)∨(Region.wanted o (yielded ops a.tmps)=false/\cv=undef)
theorem Yv.same {o:Oper}{a a':Act}{w:World}{cv:Value}(hs:jB o=true)(h:∀t∈o.looksAt ops,tv a t=tv a' t)(hy:Yv P ops o a w cv):Yv P ops o a' w cv:=by
 unfold Yv;rw[<-gW hs h,<-ny h];exact hy
theorem Yv.PJ {o:Oper}{a:Act}{w:World}{x y:Value}(h:Yv P ops o a w x)(h':Yv P ops o a w y):x=y:=by
 rcases h with ⟨h1,h2⟩|⟨h1,rfl⟩<;>rcases h' with ⟨h3,h4⟩|⟨h3,rfl⟩
 ·rw[h2]at h4;simpa using h4
 ·rw[h1]at h3;cases h3
 ·rw[h1]at h3;cases h3
 ·rfl
theorem Yv.wp {r:Option Nat}{o:Oper}{i:Nat}{a:Act}{w:World}{cv:Value}{Q:Exit->Act->World->Prop}{K:Act->World->Prop}(hi:ops[i]?=some o)(hy:Yv P ops o a w cv)(h:K (a.put o.dst cv) w):wpOpIn (fw r) 0 P ops Q i K a w:=by
 unfold wpOpIn;rw[hi];simp only;rcases hy with ⟨h1,h2⟩|⟨h1,rfl⟩
 ·rw[if_pos h1];exact dU.wp (G:=fun cv' w'=>cv'=cv/\w'=w) (.inl ⟨cv,w,.inl h2,rfl,rfl⟩) fun cv' w' ⟨e1,e2⟩=>by rw[e1,e2];exact h
 ·rw[if_neg (by rw[h1];decide)];exact⟨fun _ _=>trivial,h⟩
def LV (P:Program)(ops:Array Oper)(nt:Nat)(o:Oper)(tm:Tm)(hp:Tr AO)(v:AV):Prop :=
 ∀B w0 ι a w,ca ι nt tm a->Core B w0 ι hp w->Yv P ops o a w (ak ι v)
theorem Hp (ι:En)(w:World):Core (fun _=>False) w ι .e w :=
 have no:∀{id:Pz} {o:AO} {p:Prop},(Tr.e:Tr AO).get id=some o->p:=fun h=>by rw[Tr.gy]at h;cases h
 ⟨Kept.refl _ _,fun _ h=>h.elim,fun _ _ h=>no h,fun _ _ h=>no h,fun _ _ _ _ _ h=>no h,fun _ _ _ _ _ _ _ _ _ _ _ _ _ _ _ _ h=>no h⟩
noncomputable def kx (d:Option Tmp)(tm:Tm)(v:AV):Tm:=match d with|none=>tm|some d=>tm.put d v
variable {call:bH}{nt:Nat}{tm:Tm}{hp:Tr AO}{nx:Pz}{K:Tm->Tr AO->Pz->Rs}{o:Oper}
theorem s6 {d:Option Tmp}{b:OB}(h:(lK nt d b).run call tm hp nx K=.ok):(∀t,d=some t->t<nt)/\b.run call tm hp nx (fun v hp nx=>K (kx d tm v) hp nx)=.ok:=by
 unfold lK at h;cases d with
 |none=>exact⟨fun t e=>(by cases e),h⟩
 |some t =>
  simp only at h;cases hlt:Nat.blt t nt with
  |false=>rw[hlt]at h;cases h
  |true =>
   rw[hlt]at h;refine⟨fun u e=>by cases e;exact ax hlt,?_⟩
   have e:(fun v hp nx=>(ve t).run tm v fun tm=>K tm hp nx)=fun v hp nx=>K (kx (some t) tm v) hp nx:=by
    funext v hp nx
    rw[nN];rfl
   rw[<-e];exact h
theorem pc (h:(e7 P nt ops o).run call tm hp nx K=.ok):(∀t,o.dst=some t->t<nt) /\
  (((∀ι a,ca ι nt tm a->Region.wanted o (yielded ops a.tmps)=true)/\(yW P o).run call tm hp nx (fun v hp nx=>K (kx o.dst tm v) hp nx)=.ok)∨
   ((∀ι a,ca ι nt tm a->Region.wanted o (yielded ops a.tmps)=false)/\K (kx o.dst tm aG) hp nx=.ok)):=by
 unfold e7 at h;cases hg:o.guard with
 |none =>
  rw[hg]at h;obtain⟨h1,h2⟩:=s6 h;exact⟨h1,.inl ⟨fun ι a _=>by simp[Region.wanted,hg],h2⟩⟩
 |some g =>
  obtain⟨j,want⟩:=g;rw[hg]at h;simp only at h;cases hd:mJ ops nt j with
  |none=>rw[hd]at h;cases h
  |some d =>
   rw[hd]at h
   have h:(pL d).run tm (fun v=>GG v ((lK nt o.dst (dT fun _ k=>k aG)).run call tm hp nx K) fun b =>
    bM (oQ b want) ((lK nt o.dst (yW P o)).run call tm hp nx K) ((lK nt o.dst (dT fun _ k=>k aG)).run call tm hp nx K))=.ok:=h
   rw[lL]at h;have hy:∀ι a,ca ι nt tm a->yielded ops a.tmps j=match tm.at d with|.bool b=>some b|_=>none:=fun ι a ha=>iB hd ha
   have no:(∀ι a,ca ι nt tm a->yielded ops a.tmps j≠some want)->(lK nt o.dst (dT fun _ k=>k aG)).run call tm hp nx K=.ok->(∀t,o.dst=some t->t<nt)/\(((∀ι a,ca ι nt tm a->Region.wanted o (yielded ops a.tmps)=true)/\(yW P o).run call tm hp nx (fun v hp nx=>K (kx o.dst tm v) hp nx)=.ok)∨
     ((∀ι a,ca ι nt tm a->Region.wanted o (yielded ops a.tmps)=false)/\K (kx o.dst tm aG) hp nx=.ok)):=by
    intro hne hp';obtain⟨h1,h2⟩:=s6 hp';exact⟨h1,.inr ⟨fun ι a ha=>by simp[Region.wanted,hg];exact hne ι a ha,h2⟩⟩
   cases hv:tm.at d with
   |bool b =>
    rw[hv]at h;rcases bW h with ⟨hb,h⟩|⟨hb,h⟩
    ·have hb:b=want:=by rw[nT]at hb;simpa using hb
     obtain⟨h1,h2⟩:=s6 h;exact⟨h1,.inl ⟨fun ι a ha=>by simp[Region.wanted,hg,hy ι a ha,hv,hb],h2⟩⟩
    ·have hb:b≠want:=by rw[nT]at hb;simpa using hb
     exact no (fun ι a ha=>by rw[hy ι a ha,hv];simp[hb]) h
   |_=>rw[hv]at h;exact no (fun ι a ha=>by rw[hy ι a ha,hv];simp) h
theorem pd (hl:fQ P o=true)(h:(e7 P nt ops o).run call tm hp nx K=.ok):(∀t,o.dst=some t->t<nt)/\∃v,K (kx o.dst tm v) hp nx=.ok/\LV P ops nt o tm hp v:=by
 obtain⟨h1,⟨h2,h3⟩|⟨h2,h3⟩⟩:=pc h
 ·obtain⟨v,hk,hv⟩:=uh hl h3;exact⟨h1,v,hk,fun B w0 ι a w ha hc=>.inl ⟨h2 ι a ha,hv B w0 ι nt a w ha hc⟩⟩
 ·exact⟨h1,aG,h3,fun B w0 ι a w ha hc=>.inr ⟨h2 ι a ha,dq ι⟩⟩
theorem we (hl:g8 P o=true)(h:(e7 P nt ops o).run call tm hp nx K=.ok):(∀t,o.dst=some t->t<nt)/\∃v,K (kx o.dst tm v) hp nx=.ok/\LV P ops nt o tm .e v:=by
 obtain⟨h1,⟨h2,h3⟩|⟨h2,h3⟩⟩:=pc h
 ·obtain⟨v,hk,hv⟩:=Km hl h3;exact⟨h1,v,hk,fun B w0 ι a w ha hc=>.inl ⟨h2 ι a ha,hv B w0 ι nt a w ha hc⟩⟩
 ·exact⟨h1,aG,h3,fun B w0 ι a w ha hc=>.inr ⟨h2 ι a ha,dq ι⟩⟩
theorem Aa (hn:vg P o=true)(hg:o.guard=none)(h:(e7 P nt ops o).run call tm hp nx K=.ok):(∀t,o.dst=some t->t<nt)/\∃v x,K (kx o.dst tm v) (hp.set nx x) nx.succ=.ok/\MS P o tm nx v x:=by
 unfold e7 at h;rw[hg]at h;obtain⟨h1,h2⟩:=s6 h;obtain⟨v,x,hk,hx⟩:=Hn hn h2;exact⟨h1,v,x,hk,hx⟩
theorem B4 (hops:oD P call)(h:(e7 P nt ops o).run call tm hp nx K=.ok){B:Nat->Prop}{w0 w:World}{ι:En}{a:Act}(hs:Sat B w0 nt tm hp nx ι a w){G:Value->World->Prop}
  (hG:∀cv w' v hp' nx' ι2,K (kx o.dst tm v) hp' nx'=.ok->nx.num<=nx'.num->ao nx ι ι2->Wf hp' nx'->(∀ι',ao nx' ι2 ι'->Core B w0 ι' hp' w'/\cv=ak ι' v)->G cv w') :
  (∀t,o.dst=some t->t<nt)/\((Region.wanted o (yielded ops a.tmps)=true/\dU P (execOp a.eval o) w G)∨(Region.wanted o (yielded ops a.tmps)=false/\G undef w)):=by
 obtain⟨h1,⟨h2,h3⟩|⟨h2,h3⟩⟩:=pc h
 ·refine⟨h1,.inl ⟨h2 ι a (hs.2 ι (ao.refl _ _)).1,hops o tm hp nx _ h3 B w0 nt a w ι hs G ?_⟩⟩;intro v hp' nx' ι2 cv w' hk hw hle ha hc;exact hG cv w' v hp' nx' ι2 hk hle ha hw hc
 ·exact⟨h1,.inr ⟨h2 ι a (hs.2 ι (ao.refl _ _)).1,hG undef w aG hp nx ι h3 (zad _) (ao.refl _ _) hs.1 (fun ι' hι=>⟨(hs.2 ι' hι).2,(dq ι').symm⟩)⟩⟩
theorem LV.set {v u:AV}{d:Nat}(hs:jB o=true)(hd:d<nt)(hn:d∉o.looksAt ops)(h:LV P ops nt o tm hp v):LV P ops nt o (tm.put d u) hp v:=by
 intro B w0 ι a w ha hc;have hsz:d<a.tmps.size:=by rw[ha.size];exact hd
 have h0:ca ι nt tm (a.put (some d) (ak ι (tm.at d))):=by
  refine⟨by rw[jE];exact ha.size,by rw[put_defers,ha.defers,Tm.tF],fun t=>?_⟩;have:=jd hsz (ak ι (tm.at d)) t;unfold tv at this;rw[this];by_cases ht:t=d
  ·subst ht;rw[if_pos rfl]
  ·rw[if_neg ht,ha.val t,Tm.jw ht]
 refine (h B w0 ι _ w h0 hc).same hs (fun t ht=>?_);rw[jd hsz,if_neg (by intro e;subst e;exact hn ht)]
theorem LV.kx {v v':AV}{d:Option Tmp}(hs:jB o=true)(hd:∀t,d=some t->t<nt)(hn:∀t,d=some t->t∉o.looksAt ops)(h:LV P ops nt o tm hp v):LV P ops nt o (aK.kx d tm v') hp v:=by
 cases d with
 |none=>exact h
 |some t=>exact h.set hs (hd t rfl) (hn t rfl)
theorem gF:∀(p q:Pz),qO p q=true->p=q:=by
 intro p
 induction p with
 |h=>intro q h;cases q<;>first|rfl|cases h
 |o p ih=>intro q h;cases q<;>first|(cases h;done)|(rw[ih _ h])
 |i p ih=>intro q h;cases q<;>first|(cases h;done)|(rw[ih _ h])
theorem Hq {a b:AV}(h:VU a b=true):a=b:=by
 unfold VU at h;split at h
 all_goals first|(cases h;done)|rfl|skip
 ·simp only[beq_iff_eq]at h;rw[h]
 ·simp only[za,decide_eq_true_eq,beq_iff_eq]at h;rw[h.1,h.2]
 ·simp only[za]at h;rw[aj h.1,aj h.2]
 ·simp only[za,decide_eq_true_eq]at h;rw[h.1,aj h.2]
 ·simp only[za]at h;rw[gF _ _ h.1,aj h.2]
 ·simp only[za]at h;rw[gF _ _ h.1,aj h.2.1,aj h.2.2.1,aj h.2.2.2]
 ·simp only[za]at h;rw[gF _ _ h.1,aj h.2.1,aj h.2.2.1,aj h.2.2.2]
 ·rw[gF _ _ h]
theorem B5 {f:AV->AV->Bool}(hf:∀a b,f a b=true->a=b):∀(x y:List AV),VV f x y=true->x=y
 | [],[],_=>rfl
 | [],_::_,h=>by cases h
 |_::_,[],h=>by cases h
 |a::x,b::y,h=>by
  have h:Bool.rec (motive:=fun _=>Bool) false (VV f x y) (f a b)=true:=h;cases hb:f a b with
  |false=>rw[hb]at h;cases h
  |true=>rw[hb]at h;rw[hf _ _ hb,B5 hf x y h]
theorem Hr {a b:AV}(h:Pv a b=true):a=b:=by
 unfold Pv at h;split at h
 ·rw[B5 (fun _ _=>Hq) _ _ h]
 ·exact Hq h
theorem PK {a b:AV}(h:VW a b=true):a=b:=by
 unfold VW at h;split at h
 ·rw[B5 (fun _ _=>Hr) _ _ h]
 ·exact Hr h
def qp (P:Program)(ops:Array Oper)(nt:Nat)(tm:Tm)(hp:Tr AO)(o:Oper):Prop:=∃v,(∀d,o.dst=some d->tm.at d=v/\d<nt)/\LV P ops nt o tm hp v
theorem ui (hl:fQ P o=true)(h:(BL P nt ops o).run call tm hp nx K=.ok):K tm hp nx=.ok/\qp P ops nt tm hp o:=by
 unfold BL at h;cases hd:o.dst with
 |none =>
  rw[hd]at h;obtain⟨h1,v,h2,h3⟩:=pd hl h;exact⟨h2,v,fun d e=>(by rw[hd]at e;cases e),h3⟩
 |some d =>
  rw[hd]at h;obtain⟨h1,v,h2,h3⟩:=pd hl h;rw[hd]at h2;have h2:(pL d).run (tm.put d v) (fun v=>(pL d).run tm fun u=>bM (VW v u) (K tm hp nx) (.bad 213))=.ok:=h2;rw[lL,lL,Tm.gP]at h2;obtain⟨he,g3⟩:=aJ h2;have:=PK he;exact⟨g3,v,fun d' e=>(by rw[hd]at e;cases e;exact⟨this.symm,h1 d hd⟩),h3⟩
theorem j0:∀(l:List Oper),(∀o∈l,fQ P o=true)->(jA P nt ops l).run call tm hp nx K=.ok->K tm hp nx=.ok/\∀o∈l,qp P ops nt tm hp o
 | [],_,h=>⟨h,fun o ho=>by simp at ho⟩
 |o::l,hl,h=>by
  obtain⟨h1,h2⟩:=ui (hl o (zac ..)) (K:=fun tm hp nx=>(jA P nt ops l).run call tm hp nx K) h;obtain⟨h3,h4⟩:=j0 l (fun o ho=>hl o (zaa _ ho)) h1;refine⟨h3,fun o' ho=>?_⟩;rcases List.mem_cons.1 ho with rfl|ho
  ·exact h2
  ·exact h4 o' ho
end
theorem Ab (R:Nat->Nat->Prop)(l:List Oper):∀(acc:Array Nat),(∀j i,bit acc j i=true->R j i) ->
  (∀o j,l[j]?=some o->∀e∈o.after,Region.binds .any e=true->R (acc.size+j) e.on/\∀i,R e.on i->R (acc.size+j) i) ->
  ∀j i,bit (l.foldl (fun acc o=>acc.push (o.after.foldl (fun s e=>if Region.binds .any e then s||| 2 ^ e.on||| acc.getD e.on 0 else s) 0)) acc) j i=true->R j i:=by
 induction l with
 |nil=>intro acc h _ j i hb;exact h j i hb
 |cons o l ih =>
  intro acc h hl j i hb;refine ih _ (fun j i hb=>?_) (fun o' j' ho' e he hbi=>?_) j i hb
  ·unfold bit at hb;rw[zah,zeu]at hb;by_cases hj:j=acc.size
   ·rw[if_pos hj,zcb]at hb
    have hfold:∀(m:List Edge) (s:Nat),(∀i,s.testBit i=true->R acc.size i)->(∀e∈m,e∈o.after.toList)->∀i,(m.foldl (fun s e=>if Region.binds .any e then s||| 2 ^ e.on||| acc.getD e.on 0 else s) s).testBit i=true->R acc.size i:=by
     intro m
     induction m with
     |nil=>intro s hs _ i hi;exact hs i hi
     |cons e m ihm =>
      intro s hs hm i hi;refine ihm _ (fun i hi=>?_) (fun e he=>hm e (zaa _ he)) i hi;simp only at hi;by_cases hbe:Region.binds .any e=true
      ·rw[if_pos hbe,Nat.testBit_or,Nat.testBit_or,zaq,zaq]at hi;obtain⟨q1,q2⟩:=hl o 0 rfl e (by simpa using hm e (zac ..)) hbe;rw[zbt]at q1 q2;rcases hi with (hi|hi)|hi
       ·exact hs i hi
       ·rw[Nat.testBit_two_pow]at hi;have:e.on=i:=by simpa using hi
        rw[<-this];exact q1
       ·exact q2 i (h _ _ hi)
      ·rw[if_neg hbe]at hi;exact hs i hi
    rw[hj];rw[<-zdi]at hb;exact hfold o.after.toList 0 (fun i hi=>by simp at hi) (fun e he=>he) i hb
   ·rw[if_neg hj]at hb;refine h j i ?_;unfold bit;rw[zah];exact hb
  ·have:=hl o' (j'+1) (by simpa using ho') e he hbi;rw[Array.size_push,show acc.size+1+j'=acc.size+(j'+1) by omega];exact this
theorem Ad {ops:Array Oper}(R:Nat->Nat->Prop)(h:∀o j,ops[j]?=some o->∀e∈o.after,Region.binds .any e=true->R j e.on/\∀i,R e.on i->R j i):∀j i,bit (Region.before ops) j i=true->R j i:=by
 intro j i hb;unfold Region.before at hb;rw[<-zdi]at hb;refine Ab R ops.toList #[] (fun j i hb=>by simp[bit]at hb) (fun o j ho e he hbi=>?_) j i hb;have:=h o j (by simpa using ho) e he hbi;simpa using this
theorem gX {ops:Array Oper}(L:Nat->Prop)(hL:∀i o,ops[i]?=some o->L i->∀e∈o.after,Region.binds .any e=true->L e.on):∀j i,L j->bit (Region.before ops) j i=true->L i:=by
 intro j i hj hb;exact Ad (fun j i=>L j->L i) (fun o j ho e he hbi=>⟨fun h=>hL j o ho h e he hbi,fun i hi h=>hi (hL j o ho h e he hbi)⟩) j i hb hj
theorem qY {ops:Array Oper}(hlt:∀i o,ops[i]?=some o->∀e∈o.after,Region.binds .any e=true->e.on<i):∀j i,bit (Region.before ops) j i=true->i<j:=by
 intro j i hb;exact Ad (fun j i=>i<j) (fun o j ho e he hbi=>⟨hlt j o ho e he hbi,fun i hi=>Nat.lt_trans hi (hlt j o ho e he hbi)⟩) j i hb
end Go.aK
namespace Go.aK
open Go.RowKit
structure Rg (P:Program) (ops:Array Oper) (E F H:List Nat):Prop where
 Dz:∀i,i<ops.size->(i∈E/\i∉F/\i∉H)∨(i∉E/\i∈F/\i∉H)∨(i∉E/\i∉F/\i∈H)
 Tf:∀i∈E,i<ops.size
 MT:∀i∈F,i<ops.size
 ZD:∀i∈H,i<ops.size
 xJ:∀i o,ops[i]?=some o->∀e∈o.after,Region.binds .any e=true->e.on<i
 kE:∀i∈E,fQ P (ae ops i)=true
 kF:∀i∈F,Dk P (ae ops i)=true
 Gy:∀i,i<ops.size->jB (ae ops i)=true
 Kn:∀i,i<ops.size->∀j,j∈E∨j∈F->(lk ops i j=true->bit (Region.before ops) i j=true)/\(i≠j->∀d,(ae ops j).dst=some d->(ae ops i).dst≠some d)
theorem j2 {ops:Array Oper}{i:Nat}(h:i<ops.size):ops[i]?=some (ae ops i):=by
 unfold ae;rw[zah,zbf h];rfl
theorem si {ops:Array Oper}{i j d:Nat}(hd:(ae ops j).dst=some d)(h:d∈(ae ops i).looksAt ops):lk ops i j=true:=by
 unfold lk;rw[hd];simpa using h
theorem wg {P:Program}{o:Oper}(h:Dk P o=true)(hp:g8 P o=false):vg P o=true/\o.guard=none/\∃d,o.dst=some d:=by
 unfold Dk at h;rw[hp]at h;simp only[zcs,za]at h;exact⟨h.1.1,by simpa using h.1.2,Option.isSome_iff_exists.1 h.2⟩
def vp (P:Program)(ops:Array Oper)(B S:Nat->Prop)(β:Nat)(a:Act)(w:World)(o:Oper):Prop :=
 (g8 P o=true/\∃cv,(∀w1,Yv P ops o a w1 cv)/\∀d,o.dst=some d->tv a d=cv)∨
 (g8 P o=false/\∃y d,S β/\¬B β/\w.heap[β]?=some y/\o.dst=some d/\∀w1:World,w1.heap.size=β->(execOp a.eval o).run P w1=.ok (.value (tv a d)) (w1.alloc y))
structure Sync (P:Program) (ops:Array Oper) (nt:Nat) (E F H CE CF CH:List Nat) (L:Nat->Prop) (B S:Nat->Prop) (w0:World) (tm:Tm) (hp:Tr AO) (nx:Pz) (ι:En) (β:Nat->Nat) (c a:Act) (w:World):Prop where
 down:∀i o,ops[i]?=some o->L i->∀e∈o.after,Region.binds .any e=true->L e.on
 Tg:∀i,L i->i<ops.size
 hv:∀i∈H,(L i ↔ i∈CH)
 fl:∀i∈CF,L i
 el:∀i∈E,L i->i∈CE
 kept:Kept B w0 w
 sub:∀k,B k->S k
 sat:Sat S w nt tm hp nx ι c w
 qs:∀f∈F,L f->f∉CF->vp P ops B S (β f) a w (ae ops f)
 inj:∀f∈F,∀g∈F,L f->L g->f∉CF->g∉CF->g8 P (ae ops f)=false->g8 P (ae ops g)=false->β f=β g->f=g
 size:a.tmps.size=nt
 defers:a.defers=c.defers
 link:∀t,(∀i,i∈E∨i∈F->(ae ops i).dst=some t->(L i ↔ (i∈CE∨i∈CF)))->tv a t=tv c t
section
variable {P:Program}{ops:Array Oper}{nt:Nat}{E F H:List Nat}{call:bH}{L:Nat->Prop}{B S:Nat->Prop}{w0 w:World}{tm:Tm}{hp:Tr AO}{nx:Pz}{ι:En}{β:Nat->Nat}{c a:Act}
theorem Rg.he (hr:Rg P ops E F H){i:Nat}(h:i∈H):i∉E/\i∉F:=by
 rcases hr.Dz i (hr.ZD i h)with h'|h'|h'
 ·exact absurd h h'.2.2
 ·exact absurd h h'.2.2
 ·exact⟨h'.1,h'.2.1⟩
theorem Rg.self (hr:Rg P ops E F H){i d:Nat}(h:i∈E∨i∈F)(hd:(ae ops i).dst=some d):d∉(ae ops i).looksAt ops:=by
 intro hl;have hlt:i<ops.size:=h.elim (hr.Tf i) (hr.MT i);have:=qY hr.xJ i i ((hr.Kn i hlt i h).1 (si hd hl));omega
theorem kY {ι':En}{v:AV}{cv:Value}{d:Option Tmp}(ht:ca ι' nt tm c)(hd:∀t,d=some t->t<nt)(hv:cv=ak ι' v):ca ι' nt (kx d tm v) (c.put d cv):=by
 cases d with
 |none=>exact ht
 |some t=>exact kX ht (hd t rfl) hv
theorem fY {a:Act}{d:Option Tmp}{v:Value}{t:Nat}(h:d≠some t):tv (a.put d v) t=tv a t:=by
 cases d with
 |none=>rfl
 |some d =>
  have hne:d≠t:=fun e=>h (by rw[e]);unfold tv Act.put;simp only[zah,zcf hne]
theorem jy {a:Act}{d:Nat}{v:Value}(h:d<a.tmps.size):tv (a.put (some d) v) d=v:=by rw[jd h,if_pos rfl]
theorem xK (hr:Rg P ops E F H){CF CH:List Nat}{K:Tm->Tr AO->Pz->Rs}:∀(es CE G:List Nat)(tm:Tm)(c:Act),BN ops E F CF es CE=true->Sync P ops nt E F H CE CF CH L B S w0 tm hp nx ι β c a w ->
  (dk P nt ops (es.map (ae ops))).run call tm hp nx K=.ok->(∀g∈G,g∈E/\g∈CE/\qp P ops nt tm hp (ae ops g)/\∀e∈E,lk ops g e=true->e∈CE) ->
  ∃tm' c',K tm' hp nx=.ok/\Sync P ops nt E F H (es.reverse++CE) CF CH L B S w0 tm' hp nx ι β c' a w/\∀g,g∈G∨g∈es->qp P ops nt tm' hp (ae ops g)
 | [],CE,G,tm,c,_,hs,h,hG=>⟨tm,c,h,hs,fun g hg=>by
   rcases hg with hg|hg
   ·exact (hG g hg).2.2.1
   ·simp at hg⟩
 |i::es,CE,G,tm,c,hq,hs,h,hG=>by
  simp only[BN,za,zam,zb,zbl,zaq]at hq;obtain⟨⟨⟨⟨q1,q2⟩,q3⟩,q4⟩,q5⟩:=hq;have q2:i∉CE:=by simpa using q2
  have hlt:=hr.Tf i q1;have h:(e7 P nt ops (ae ops i)).run call tm hp nx (fun tm hp nx=>(dk P nt ops (es.map (ae ops))).run call tm hp nx K)=.ok:=h;obtain⟨hd,v,h,hv⟩:=pd (hr.kE i q1) h;have hLi:¬L i:=fun h'=>q2 (hs.el i q1 h')
  have hren:∀ι',ao nx ι ι'->ak ι v=ak ι' v:=fun ι' hι=>by
   obtain⟨t1,c1⟩:=hs.sat.2 ι (ao.refl _ _);obtain⟨t2,c2⟩:=hs.sat.2 ι' hι;exact (hv _ _ ι c w t1 c1).PJ (hv _ _ ι' c w t2 c2)
  have hs1:Sync P ops nt E F H (i::CE) CF CH L B S w0 (kx (ae ops i).dst tm v) hp nx ι β (c.put (ae ops i).dst (ak ι v)) a w:=by
   refine⟨hs.down,hs.Tg,hs.hv,hs.fl,fun j hj h'=>zaa _ (hs.el j hj h'),hs.kept,hs.sub,⟨hs.sat.1,fun ι' hι=>⟨kY (hs.sat.2 ι' hι).1 hd (hren ι' hι),(hs.sat.2 ι' hι).2⟩⟩,hs.qs,hs.inj,hs.size,(by rw[put_defers];exact hs.defers),fun t ht=>?_⟩;have hne:(ae ops i).dst≠some t:=fun e=>hLi ((ht i (.inl q1) e).2 (.inl (zac ..)));rw[fY hne];refine hs.link t fun j hj hjd=>(ht j hj hjd).trans ?_;have hji:j≠i:=fun e=>hne (e▸hjd);simp[hji]
  have hfact:∀g,g∈E->g≠i->(lk ops g i=true->i∈CE)->qp P ops nt tm hp (ae ops g)->qp P ops nt (kx (ae ops i).dst tm v) hp (ae ops g):=by
   intro g hg hgi hlk ⟨u,h1,h2⟩;refine⟨u,fun d hd'=>?_,LV.kx (hr.Gy g (hr.Tf g hg)) hd (fun t ht hl=>q2 (hlk (si ht hl))) h2⟩;obtain⟨h3,h4⟩:=h1 d hd';refine⟨?_,h4⟩;cases hdi:(ae ops i).dst with
   |none=>exact h3
   |some t =>
    have hne:d≠t:=fun e=>(hr.Kn g (hr.Tf g hg) i (.inl q1)).2 hgi t hdi (e▸hd');show (tm.put t v).at d=u;rw[Tm.jw hne,h3]
  have hnew:qp P ops nt (kx (ae ops i).dst tm v) hp (ae ops i):=by
   refine⟨v,fun d hd'=>⟨?_,hd d hd'⟩,LV.kx (hr.Gy i hlt) hd (fun t ht=>hr.self (.inl q1) ht) hv⟩;rw[hd'];exact Tm.gP _ _ _
  obtain⟨tm',c',h1,h2,h3⟩:=xK hr es (i::CE) (i::G) _ _ q5 hs1 h (fun g hg=>by
   rcases List.mem_cons.1 hg with rfl|hg
   ·exact⟨q1,zac ..,hnew,fun e he hlk=>zaa _ ((q4 e he).resolve_left (by simp[hlk]))⟩
   ·obtain⟨g1,g2,g3,g4⟩:=hG g hg
    exact⟨g1,zaa _ g2,hfact g g1 (fun e=>q2 (e▸g2)) (fun hl=>g4 i q1 hl) g3,fun e he hlk=>zaa _ (g4 e he hlk)⟩)
  refine⟨tm',c',h1,by simpa using h2,fun g hg=>h3 g ?_⟩;rcases hg with hg|hg
  ·exact .inl (zaa _ hg)
  ·rcases List.mem_cons.1 hg with rfl|hg
   ·exact .inl (zac ..)
   ·exact .inr hg
def Wv (P:Program)(ops:Array Oper)(a:Act)(o:Oper):Prop :=
 (g8 P o=true/\∃cv,∀w1,Yv P ops o a w1 cv)∨
 (g8 P o=false/\o.guard=none/\∃d,o.dst=some d/\∀b,∃cv y,∀w1:World,w1.heap.size=b->(execOp a.eval o).run P w1=.ok (.value cv) (w1.alloc y))
theorem Ae (b:Nat):∃w1:World,w1.heap.size=b:=⟨{ (default:World)with heap:=Array.replicate b (.map #[] 0) },by simp⟩
theorem qt (hr:Rg P ops E F H){CE CF CH:List Nat}(hs:Sync P ops nt E F H CE CF CH L B S w0 tm hp nx ι β c a w){r:Rs}:∀(sp CFs:List Nat)(tms:Tm)(hps:Tr AO)(nxs:Pz)(ιs:En)(cs:Act),sM ops E F CE sp CFs=true->(∀i∈CF,i∈CFs) ->
  (dk P nt ops (sp.map (ae ops))).run call tms hps nxs (fun _ _ _=>r)=.ok->(∀ι',ao nxs ιs ι'->ca ι' nt tms cs) ->
  (∀t,(∀i,i∈E∨i∈F->(ae ops i).dst=some t->(L i ↔ (i∈CE∨i∈CFs)))->tv a t=tv cs t) ->
  r=.ok/\∀f∈sp,(∀i,bit (Region.before ops) f i=true->L i)->Wv P ops a (ae ops f)/\∀d,(ae ops f).dst=some d->d<nt
 | [],CFs,tms,hps,nxs,ιs,cs,_,_,h,_,_=>⟨h,fun f hf=>by simp at hf⟩
 |f::sp,CFs,tms,hps,nxs,ιs,cs,hq,hsub,h,hfit,hlink=>by
  simp only[sM,za,zam,zb,zbl,zaq]at hq;obtain⟨⟨⟨⟨q1,q2⟩,q3⟩,q4⟩,q5⟩:=hq;have q2:f∉CFs:=by simpa using q2
  have hlt:=hr.MT f q1;have hsel:=hr.Gy f hlt
  have hsame:(∀i,bit (Region.before ops) f i=true->L i)->∀t∈(ae ops f).looksAt ops,tv a t=tv cs t:=by
   intro hpre t ht;refine hlink t fun i hi hid=>?_;have hl:=si hid ht;refine⟨fun _=>?_,fun _=>hpre i ((hr.Kn f hlt i hi).1 hl)⟩;rcases hi with hi|hi
   ·exact .inl ((q4 i hi).resolve_left (by simp[hl]))
   ·exact .inr ((q3 i hi).resolve_left (by simp[hl]))
  have hpreL:L f->∀i,bit (Region.before ops) f i=true->L i:=fun hf i hb=>gX L hs.down f i hf hb;have h:(e7 P nt ops (ae ops f)).run call tms hps nxs (fun tm hp nx=>(dk P nt ops (sp.map (ae ops))).run call tm hp nx (fun _ _ _=>r))=.ok:=h
  have oC:∀(cv:Value) (t:Nat),(∀d,(ae ops f).dst=some d->d<nt)->(L f->∀d,(ae ops f).dst=some d->tv a d=cv) ->
    (∀i,i∈E∨i∈F->(ae ops i).dst=some t->(L i ↔ (i∈CE∨i∈f::CFs)))->tv a t=tv (cs.put (ae ops f).dst cv) t:=by
   intro cv t hd hval ht;by_cases hdt:(ae ops f).dst=some t
   ·have hLf:=(ht f (.inr q1) hdt).2 (.inr (zac ..));rw[hval hLf t hdt,hdt,jy];rw[(hfit ιs (ao.refl _ _)).size];exact hd t hdt
   ·rw[fY hdt];refine hlink t fun i hi hid=>(ht i hi hid).trans ?_;have:i≠f:=fun e=>hdt (e▸hid);simp[this]
  cases hk:g8 P (ae ops f)with
  |true =>
   obtain⟨hd,v,h,hv⟩:=we hk h;have hy:∀ι',ao nxs ιs ι'->∀w1,Yv P ops (ae ops f) cs w1 (ak ι' v):=fun ι' hι w1=>hv _ _ ι' cs w1 (hfit ι' hι) (Hp ι' w1);have hya:(∀i,bit (Region.before ops) f i=true->L i)->∀w1,Yv P ops (ae ops f) a w1 (ak ιs v):=fun hpre w1=>(hy ιs (ao.refl _ _) w1).same hsel (fun t ht=>(hsame hpre t ht).symm)
   obtain⟨r1,r2⟩:=qt hr hs sp (f::CFs) _ hps nxs ιs (cs.put (ae ops f).dst (ak ιs v)) q5 (fun i hi=>zaa _ (hsub i hi)) h
    (fun ι' hι=>kY (hfit ι' hι) hd ((hy ιs (ao.refl _ _) default).PJ (hy ι' hι default)))
    (fun t ht=>oC _ t hd (fun hLf d hdd=>by
     rcases hs.qs f q1 hLf (fun hc=>q2 (hsub f hc))with ⟨_,cv,p1,p2⟩|⟨p0,_⟩
     ·rw[p2 d hdd];exact (p1 default).PJ (hya (hpreL hLf) default)
     ·rw[hk]at p0;cases p0) ht)
   refine⟨r1,fun g hg hpre=>?_⟩;rcases List.mem_cons.1 hg with rfl|hg
   ·exact⟨.inl ⟨hk,_,hya hpre⟩,hd⟩
   ·exact r2 g hg hpre
  |false =>
   obtain⟨hn,hgd,d,hdd⟩:=wg (hr.kF f q1) hk;obtain⟨hd,v,x,h,hx⟩:=Aa hn hgd h
   have hrun:∀b,∃y,∀ι',ao nxs.succ (ιs.at nxs b 0 0) ι'->∀w1:World,w1.heap.size=b->(execOp cs.eval (ae ops f)).run P w1=.ok (.value (ak (ιs.at nxs b 0 0) v)) (w1.alloc y)/\ak ι' v=ak (ιs.at nxs b 0 0) v:=by
    intro b;have hag:ao nxs ιs (ιs.at nxs b 0 0):=ib ιs nxs b 0 0;obtain⟨y,h1,h2⟩:=hx.2.2 (ιs.at nxs b 0 0) nt cs (hfit _ hag) (by simp[En.at]);refine⟨y,fun ι' hι w1 hw1=>⟨h1 w1 (by simp[En.at,hw1]),?_⟩⟩;obtain⟨ha,hb,hsh,_⟩:=eR hι;obtain⟨y',h3,h4⟩:=hx.2.2 ι' nt cs (hfit _ ha) hsh;have e1:=h1 w1 (by simp[En.at,hw1]);have e2:=h3 w1 (by rw[hb,hw1]);rw[e1]at e2;simp only[Result.ok.injEq,Next.value.injEq]at e2;exact e2.1.symm
   obtain⟨b,hb⟩:∃b,b=β f:=⟨_,rfl⟩;obtain⟨y,hy⟩:=hrun b;obtain⟨w1,hw1⟩:=Ae b
   obtain⟨r1,r2⟩:=qt hr hs sp (f::CFs) _ _ nxs.succ (ιs.at nxs b 0 0) (cs.put (ae ops f).dst (ak (ιs.at nxs b 0 0) v)) q5 (fun i hi=>zaa _ (hsub i hi)) h
    (fun ι' hι=>kY (hfit ι' (eR hι).1) hd (hy ι' hι w1 hw1).2.symm)
    (fun t ht=>oC _ t hd (fun hLf d' hd'=>by
     rcases hs.qs f q1 hLf (fun hc=>q2 (hsub f hc))with ⟨p0,_⟩|⟨_,y',d2,p1,p2,p3,p4,p5⟩
     ·rw[hk]at p0;cases p0
     ·rw[hd']at p4;cases p4;have e1:=p5 w1 (by rw[hw1,hb]);rw[gW hsel (hsame (hpreL hLf)),(hy _ (ao.refl _ _) w1 hw1).1]at e1;simp only[Result.ok.injEq,Next.value.injEq]at e1
      exact e1.1.symm) ht)
   refine⟨r1,fun g hg hpre=>?_⟩;rcases List.mem_cons.1 hg with rfl|hg
   ·refine⟨.inr ⟨hk,hgd,d,hdd,fun b'=>?_⟩,hd⟩;obtain⟨y',hy'⟩:=hrun b';exact⟨_,y',fun w1 hw1=>by rw[gW hsel (hsame hpre)];exact (hy' _ (ao.refl _ _) w1 hw1).1⟩
   ·exact r2 g hg hpre
end
end Go.aK
namespace Go.aK
open Go.RowKit
section
variable {P:Program}{ops:Array Oper}{nt:Nat}{E F H:List Nat}{call:bH}{L:Nat->Prop}{B S:Nat->Prop}{w0 w:World}{tm:Tm}{hp:Tr AO}{nx:Pz}{ι:En}{β:Nat->Nat}{c a:Act}
theorem B6 {o:AO}{y:Obj}{b:Nat}(hw:Wf hp nx)(hc:Core S w0 ι hp w)(hb:ι.aY nx=b)(hS:S b)(ho:gR o=none)(hx:∀e s,o≠.cO e s)(hob:jk ι (hp.set nx o) w nx o) :
  Core (fun k=>S k/\k≠b) w0 ι (hp.set nx o) w:=by
 have hne:∀i p,hp.get i=some p->i≠nx:=fun i p hi e=>by have:=hw.lt _ _ hi;rw[e]at this;omega
 have hnb:∀i p,hp.get i=some p->own hp p->ι.aY i≠b:=fun i p hi hp' e=>hc.base _ _ hi hp' (e▸hS);refine⟨hc.below.mono fun k hk=>hk.1,fun k hk=>hc.room k hk.1,?_,?_,?_,?_⟩
 ·intro i p hi;rcases ah hi with ⟨rfl,rfl⟩|⟨hi',hi⟩
  ·exact hob
  ·exact (hc.obj _ _ hi).aU (cx hw hx) fun _=>rfl
 ·intro i p hi ho';rcases ah hi with ⟨rfl,_⟩|⟨hi',hi⟩
  ·rw[hb];exact fun h=>h.2 rfl
  ·exact fun h=>hc.base _ _ hi (cx hw hx ho') h.1
 ·intro i i' p p' hii hi hi' ho1 ho2 e;rcases ah hi with ⟨h1,h2⟩|⟨h1,g1⟩
  ·rcases ah hi' with ⟨h3,_⟩|⟨h3,g3⟩
   ·exact absurd (h1.trans h3.symm) hii
   ·rw[h1,hb]at e;exact absurd e.symm (hnb _ _ g3 (cx hw hx ho2))
  ·rcases ah hi' with ⟨h3,_⟩|⟨h3,g3⟩
   ·rw[h3,hb]at e;exact absurd e (hnb _ _ g1 (cx hw hx ho1))
   ·exact hc.sep _ _ _ _ hii g1 g3 (cx hw hx ho1) (cx hw hx ho2) e
 ·intro i i' f e es n el c f' e' tp' es' n' el' c' hii h h' hl hl';rcases ah h with ⟨_,h⟩|⟨_,h⟩
  ·rw[h]at ho;cases ho
  ·rcases ah h' with ⟨_,h'⟩|⟨_,h'⟩
   ·rw[h']at ho;cases ho
   ·exact hc.eZ _ _ _ _ _ _ _ _ _ _ _ _ _ _ _ hii h h' (cx (o:=.bX f e true es n el c) hw hx hl) (cx (o:=.bX f' e' tp' es' n' el' c') hw hx hl')
theorem sk {w1:World}(h:Core S w0 ι hp w):Core S w ι hp w:=⟨Kept.refl _ _,h.room,h.obj,h.base,h.sep,h.eZ⟩
theorem s7 (hr:Rg P ops E F H){CE CH:List Nat}{K:Tm->Tr AO->Pz->Rs}:∀(fs CF:List Nat)(tm:Tm)(hp:Tr AO)(nx:Pz)(ι:En)(S:Nat->Prop)(c:Act),sM ops E F CE fs CF=true ->
  Sync P ops nt E F H CE CF CH L B S w0 tm hp nx ι β c a w->(∀f∈fs,L f)->(dk P nt ops (fs.map (ae ops))).run call tm hp nx K=.ok ->
  ∃tm' hp' nx' ι' S' c',K tm' hp' nx'=.ok/\nx.num<=nx'.num/\ao nx ι ι'/\Sync P ops nt E F H CE (fs.reverse++CF) CH L B S' w0 tm' hp' nx' ι' β c' a w
 | [],CF,tm,hp,nx,ι,S,c,_,hs,_,h=>⟨tm,hp,nx,ι,S,c,h,zad _,ao.refl _ _,hs⟩
 |f::fs,CF,tm,hp,nx,ι,S,c,hq,hs,hL,h=>by
  simp only[sM,za,zam,zb,zbl,zaq]at hq;obtain⟨⟨⟨⟨q1,q2⟩,q3⟩,q4⟩,q5⟩:=hq;have q2:f∉CF:=by simpa using q2
  have hlt:=hr.MT f q1;have hsel:=hr.Gy f hlt;have hLf:=hL f (zac ..);have hpre:∀i,bit (Region.before ops) f i=true->L i:=fun i hb=>gX L hs.down f i hLf hb
  have hsame:∀t∈(ae ops f).looksAt ops,tv a t=tv c t:=by
   intro t ht;refine hs.link t fun i hi hid=>?_;have hl:=si hid ht;refine⟨fun _=>?_,fun _=>hpre i ((hr.Kn f hlt i hi).1 hl)⟩;rcases hi with hi|hi
   ·exact .inl ((q4 i hi).resolve_left (by simp[hl]))
   ·exact .inr ((q3 i hi).resolve_left (by simp[hl]))
  have h:(e7 P nt ops (ae ops f)).run call tm hp nx (fun tm hp nx=>(dk P nt ops (fs.map (ae ops))).run call tm hp nx K)=.ok:=h
  have oC:∀(cv:Value) (t:Nat),(∀d,(ae ops f).dst=some d->d<nt)->(∀d,(ae ops f).dst=some d->tv a d=cv) ->
    (∀i,i∈E∨i∈F->(ae ops i).dst=some t->(L i ↔ (i∈CE∨i∈f::CF)))->tv a t=tv (c.put (ae ops f).dst cv) t:=by
   intro cv t hd hval ht;by_cases hdt:(ae ops f).dst=some t
   ·rw[hval t hdt,hdt,jy];rw[(hs.sat.2 ι (ao.refl _ _)).1.size];exact hd t hdt
   ·rw[fY hdt];refine hs.link t fun i hi hid=>(ht i hi hid).trans ?_;have:i≠f:=fun e=>hdt (e▸hid);simp[this]
  have hfl:∀i∈f::CF,L i:=fun i hi=>by
   rcases List.mem_cons.1 hi with rfl|hi
   ·exact hLf
   ·exact hs.fl i hi
  have hnot:∀{g},g∉f::CF->g∉CF/\g≠f:=fun hg=>⟨fun h'=>hg (zaa _ h'),fun e=>hg (e▸zac ..)⟩;cases hk:g8 P (ae ops f)with
  |true =>
   obtain⟨hd,v,h,hv⟩:=we hk h;have hy:∀ι',ao nx ι ι'->∀w1,Yv P ops (ae ops f) c w1 (ak ι' v):=fun ι' hι w1=>hv _ _ ι' c w1 (hs.sat.2 ι' hι).1 (Hp ι' w1)
   have hval:∀d,(ae ops f).dst=some d->tv a d=ak ι v:=fun d hdd=>by
    rcases hs.qs f q1 hLf q2 with ⟨_,cv,p1,p2⟩|⟨p0,_⟩
    ·rw[p2 d hdd];exact (p1 default).PJ ((hy ι (ao.refl _ _) default).same hsel (fun t ht=>(hsame t ht).symm))
    ·rw[hk]at p0;cases p0
   obtain⟨tm',hp',nx',ι',S',c',g1,g2,g3,g4⟩:=s7 hr fs (f::CF) _ hp nx ι S (c.put (ae ops f).dst (ak ι v)) q5
    ⟨hs.down,hs.Tg,hs.hv,hfl,hs.el,hs.kept,hs.sub,⟨hs.sat.1,fun ι' hι=>⟨kY (hs.sat.2 ι' hι).1 hd ((hy ι (ao.refl _ _) default).PJ (hy ι' hι default)),(hs.sat.2 ι' hι).2⟩⟩,
     fun g hg hLg hgc=>hs.qs g hg hLg (hnot hgc).1,fun g hg g' hg' l l' n n'=>hs.inj g hg g' hg' l l' (hnot n).1 (hnot n').1,hs.size,(by rw[put_defers];exact hs.defers),fun t ht=>oC _ t hd hval ht⟩
    (fun g hg=>hL g (zaa _ hg)) h
   exact⟨tm',hp',nx',ι',S',c',g1,g2,g3,by simpa using g4⟩
  |false =>
   obtain⟨hn,hgd,d,hdd⟩:=wg (hr.kF f q1) hk;obtain⟨hd,v,x,h,hx⟩:=Aa hn hgd h;rcases hs.qs f q1 hLf q2 with ⟨p0,_⟩|⟨_,y,d2,p1,p2,p3,p4,p5⟩
   ·rw[hk]at p0;cases p0
   have hag:ao nx ι (ι.at nx (β f) 0 0):=ib ι nx (β f) 0 0;obtain⟨w1,hw1⟩:=Ae (β f)
   have key:∀ι',ao nx.succ (ι.at nx (β f) 0 0) ι'->tv a d2=ak ι' v/\∀hp w',w'.heap[β f]?=some y->jk ι' hp w' nx x:=by
    intro ι' hι;obtain⟨ha,hb,hsh,_⟩:=eR hι;obtain⟨y',h3,h4⟩:=hx.2.2 ι' nt c (hs.sat.2 ι' ha).1 hsh;have e1:=p5 w1 hw1;have e2:=h3 w1 (by rw[hb,hw1]);rw[gW hsel hsame,e2]at e1;simp only[Result.ok.injEq,Next.value.injEq]at e1;refine⟨e1.1.symm,fun hp w' hw'=>h4 hp w' ?_⟩;rw[hb,hw'];have e3:=congrArg (fun (u:World)=>u.heap[β f]?) e1.2;rw[<-hw1,cb,cb]at e3;exact e3.symm
   have hval:∀d',(ae ops f).dst=some d'->tv a d'=ak (ι.at nx (β f) 0 0) v:=fun d' hd'=>by
    rw[p4]at hd';cases hd';exact (key _ (ao.refl _ _)).1
   have hsub':∀k,B k->S k/\k≠β f:=fun k hk=>⟨hs.sub k hk,fun e=>p2 (e▸hk)⟩
   obtain⟨tm',hp',nx',ι',S',c',g1,g2,g3,g4⟩:=s7 hr fs (f::CF) _ (hp.set nx x) nx.succ (ι.at nx (β f) 0 0) (fun k=>S k/\k≠β f) (c.put (ae ops f).dst (ak (ι.at nx (β f) 0 0) v)) q5
    ⟨hs.down,hs.Tg,hs.hv,hfl,hs.el,hs.kept,hsub',⟨tI hs.sat.1 hx.1 hx.2.1,fun ι' hι=>by
      obtain⟨ha,hb,hsh,_⟩:=eR hι;obtain⟨k1,k2⟩:=key ι' hι;refine⟨kY (hs.sat.2 ι' ha).1 hd ?_,B6 (y:=y) hs.sat.1 (hs.sat.2 ι' ha).2 hb p1 hx.1 hx.2.1 (k2 _ _ p3)⟩;rw[<-k1]
      exact (key _ (ao.refl _ _)).1.symm⟩,
     fun g hg hLg hgc=>by
      obtain⟨n1,n2⟩:=hnot hgc;rcases hs.qs g hg hLg n1 with hp'|⟨r0,y',d',r1,r2,r3,r4,r5⟩
      ·exact .inl hp'
      ·exact .inr ⟨r0,y',d',⟨r1,fun e=>n2 (hs.inj g hg f q1 hLg hLf n1 q2 r0 hk e)⟩,r2,r3,r4,r5⟩,
     fun g hg g' hg' l l' n n'=>hs.inj g hg g' hg' l l' (hnot n).1 (hnot n').1,hs.size,(by rw[put_defers];exact hs.defers),fun t ht=>oC _ t hd hval ht⟩
    (fun g hg=>hL g (zaa _ hg)) h
   exact⟨tm',hp',nx',ι',S',c',g1,by rw[Pz.cE]at g2;omega,hag.trans (tN g3) (zad _),by simpa using g4⟩
end
end Go.aK
namespace Go.aK
open Go.RowKit
section
variable {P:Program}
mutual
theorem nz:∀(a b:AV),rT a b=true->a=b
 |.bool a,b,h=>by
  cases b<;>simp[rT]at h
  rw[h]
 |.int j a,b,h=>by
  cases b<;>simp[rT]at h
  rw[h.1,h.2]
 |.str j a,b,h=>by
  cases b<;>simp only[rT,za,reduceCtorEq,zaf]at h
  rw[aj h.1,aj h.2]
 |.float j a,b,h=>by
  cases b<;>simp only[rT,za,decide_eq_true_eq,reduceCtorEq,zaf]at h
  rw[h.1,aj h.2]
 |.ptr j a,b,h=>by
  cases b<;>simp only[rT,za,reduceCtorEq,zaf]at h
  rw[gF _ _ h.1,aj h.2]
 |.c7,b,h=>by
  cases b<;>simp[rT]at h
  rfl
 |.slice p o l c,b,h=>by
  cases b<;>simp only[rT,za,reduceCtorEq,zaf]at h
  rw[gF _ _ h.1,aj h.2.1,aj h.2.2.1,aj h.2.2.2]
 |.bw p o l c,b,h=>by
  cases b<;>simp only[rT,za,reduceCtorEq,zaf]at h
  rw[gF _ _ h.1,aj h.2.1,aj h.2.2.1,aj h.2.2.2]
 |.ab,b,h=>by
  cases b<;>simp[rT]at h
  rfl
 |.map p,b,h=>by
  cases b<;>simp only[rT,za,reduceCtorEq,zaf]at h
  rw[gF _ _ h]
 |.bg,b,h=>by
  cases b<;>simp[rT]at h
  rfl
 |.func f x y,b,h=>by
  cases b<;>simp only[rT,za,decide_eq_true_eq,reduceCtorEq,zaf]at h
  rw[h.1,lU _ _ h.2.1,lU _ _ h.2.2]
 |.cJ,b,h=>by
  cases b<;>simp[rT]at h
  rfl
 |.iface t v,b,h=>by
  cases b<;>simp only[rT,za,reduceCtorEq,zaf]at h
  rw[aj h.1,nz _ _ h.2]
 |.nilIface,b,h=>by
  cases b<;>simp[rT]at h
  rfl
 |.agg xs,b,h=>by
  cases b<;>simp only[rT,za,reduceCtorEq,zaf]at h
  rw[lU _ _ h]
 |.cN xs,b,h=>by
  cases b<;>simp only[rT,za,reduceCtorEq,zaf]at h
  rw[lU _ _ h]
theorem lU:∀(a b:List AV),tC a b=true->a=b
 | [],[],_=>rfl
 |x::xs,y::ys,h=>by
  simp only[tC,za]at h;rw[nz _ _ h.1,lU _ _ h.2]
 | [],_::_,h=>by simp[tC]at h
 |_::_,[],h=>by simp[tC]at h
end
theorem qZ:∀(a b:Tr (List AV)),Di a b=true->a=b
 |.e,b,h=>by
  cases b with
  |e=>rfl
  |n l v r=>simp[Di]at h
 |.n l none r,b,h=>by
  cases b with
  |e=>simp[Di]at h
  |n l' v r' =>
   cases v with
   |some v=>simp[Di]at h
   |none =>
    simp only[Di,za]at h;rw[qZ _ _ h.1,qZ _ _ h.2]
 |.n l (some u) r,b,h=>by
  cases b with
  |e=>simp[Di]at h
  |n l' v r' =>
   cases v with
   |none=>simp[Di]at h
   |some v =>
    simp only[Di,za]at h;rw[lU _ _ h.1,qZ _ _ h.2.1,qZ _ _ h.2.2]
theorem pe:∀(a b:List ME),Fa a b=true->a=b
 | [],[],_=>rfl
 |⟨a,b,c⟩::xs,⟨a',b',c'⟩::ys,h=>by
  simp only[Fa,za]at h;rw[nz _ _ h.1,nz _ _ h.2.1,aj h.2.2.1,pe _ _ h.2.2.2]
 | [],_::_,h=>by simp[Fa]at h
 |_::_,[],h=>by simp[Fa]at h
theorem wh {a b:Bool}(h:oQ a b=true):a=b:=by cases a<;>cases b<;>first|rfl|cases h
theorem PM (a b:AO)(h:Wr a b=true):a=b:=by
 cases a<;>cases b<;>simp only[Wr,za,reduceCtorEq,zaf,decide_eq_true_eq]at h
 ·rw[aj h.1,aj h.2.1,aj h.2.2.1,qZ _ _ h.2.2.2]
 ·rw[gF _ _ h.1,aj h.2.1,wh h.2.2.1,aj h.2.2.2.1,aj h.2.2.2.2.1,aj h.2.2.2.2.2.1,qZ _ _ h.2.2.2.2.2.2]
 ·rw[aj h.1,wh h.2]
 ·rw[aj h.1,pe _ _ h.2]
 ·rw[gF _ _ h.1,aj h.2.1,h.2.2.1,aj h.2.2.2]
 ·rfl
 ·rfl
theorem j3:∀(a b:Tr AO),pT a b=true->∀id o,a.get id=some o->b.get id=some o
 |.e,_,_,id,o,h=>by cases id<;>simp[Tr.get]at h
 |.n l none r,.e,h,id,o,hg=>by simp[pT]at h
 |.n l (some v) r,.e,h,id,o,hg=>by simp[pT]at h
 |.n l (some v) r,.n l' none r',h,id,o,hg=>by simp[pT]at h
 |.n l none r,.n l' v' r',h,id,o,hg=>by
  simp only[pT,za]at h;cases id with
  |h=>simp[Tr.get]at hg
  |o p=>exact j3 l l' h.1 p o hg
  |i p=>exact j3 r r' h.2 p o hg
 |.n l (some v) r,.n l' (some v') r',h,id,o,hg=>by
  simp only[pT,za]at h;cases id with
  |h=>simp only[Tr.get]at hg ⊢;rw[<-hg,PM _ _ h.1]
  |o p=>exact j3 l l' h.2.1 p o hg
  |i p=>exact j3 r r' h.2.2 p o hg
def Part (a b:Tr AO):Prop:=∀id o,a.get id=some o->b.get id=some o
theorem Part.live {a b:Tr AO}(h:Part a b){f:Pz}{ep:Nat}(hl:live a f ep):live b f ep:=hl.imp fun _ hs=>h _ _ hs
theorem Part.own {a b:Tr AO}(h:Part a b){o:AO}(hl:own a o):own b o:=by
 cases o with
 |bX=>exact h.live hl
 |cO=>exact hl
 |arr=>trivial
 |map=>trivial
 |iter=>trivial
 |loop=>trivial
 |gv=>trivial
 |gone=>trivial
theorem kZ {B:Nat->Prop}{w0 w:World}{ι:En}{a b:Tr AO}(h:Part a b)(hc:Core B w0 ι b w):Core B w0 ι a w :=
 ⟨hc.below,hc.room,fun id o hid=>(hc.obj id o (h _ _ hid)).aU h.own (fun _=>rfl),fun id o hid ho=>hc.base id o (h _ _ hid) (h.own ho),
  fun id id' o o' hne hid hid' ho ho'=>hc.sep id id' o o' hne (h _ _ hid) (h _ _ hid') (h.own ho) (h.own ho'),
  fun id id' f ep es n el c f' ep' tp' es' n' el' c' hne hid hid' hl hl'=>hc.eZ id id' f ep es n el c f' ep' tp' es' n' el' c' hne (h _ _ hid) (h _ _ hid') (h.live hl) (h.live hl')⟩
theorem s8 {a b:Tr AO}{nx nx':Pz}(h:Part a b)(hle:nx.num<=nx'.num)(hw:Wf b nx):Wf a nx' :=
 ⟨fun id o hid=>zbj (hw.lt id o (h _ _ hid)) hle,fun id f ep tp es n el c hid=>zbj (hw.cO id f ep tp es n el c (h _ _ hid)) hle,
  fun id f ep tp es n el c e s hid hf=>hw.ep id f ep tp es n el c e s (h _ _ hid) (h _ _ hf),
  fun f e id id' tp es n el c tp' es' n' el' c' hf hid hid'=>hw.iw f e id id' tp es n el c tp' es' n' el' c' (h _ _ hf) (h _ _ hid) (h _ _ hid')⟩
theorem Af {α:Type}{f:α->α->Bool}(hf:∀x y,f x y=true->x=y){a b:gJ α}(h:Dj f a b=true):a=b:=by
 obtain⟨a0,a1,a2,a3,a4,a5,a6,a7⟩:=a;obtain⟨b0,b1,b2,b3,b4,b5,b6,b7⟩:=b;simp only[Dj,za]at h;obtain⟨h0,h1,h2,h3,h4,h5,h6,h7⟩:=h;rw[hf _ _ h0,hf _ _ h1,hf _ _ h2,hf _ _ h3,hf _ _ h4,hf _ _ h5,hf _ _ h6,hf _ _ h7]
theorem qu {α:Type}{f:α->α->Bool}(hf:∀x y,f x y=true->x=y):∀(a b:Tr α),qP f a b=true->a=b
 |.e,b,h=>by
  cases b with
  |e=>rfl
  |n l v r=>simp[qP]at h
 |.n l none r,b,h=>by
  cases b with
  |e=>simp[qP]at h
  |n l' v r' =>
   cases v with
   |some v=>simp[qP]at h
   |none =>
    simp only[qP,za]at h;rw[qu hf _ _ h.1,qu hf _ _ h.2]
 |.n l (some u) r,b,h=>by
  cases b with
  |e=>simp[qP]at h
  |n l' v r' =>
   cases v with
   |none=>simp[qP]at h
   |some v =>
    simp only[qP,za]at h;rw[hf _ _ h.1,qu hf _ _ h.2.1,qu hf _ _ h.2.2]
theorem Ag:∀(a b:List Pz),vH a b=true->a=b
 | [],[],_=>rfl
 |x::xs,y::ys,h=>by
  simp only[vH,za]at h;rw[gF _ _ h.1,Ag _ _ h.2]
 | [],_::_,h=>by simp[vH]at h
 |_::_,[],h=>by simp[vH]at h
theorem Ko {a b:Tm}(h:Px a b=true):a=b:=by
 obtain⟨lo,hi,ml⟩:=a;obtain⟨lo',hi',ml'⟩:=b;simp only[Px,za]at h;rw[Af (fun _ _ h=>Af nz h) h.1,qu nz _ _ h.2.1,Ag _ _ h.2.2]
end
end Go.aK
namespace Go.aK
open Go.RowKit
section
variable {P:Program}{ops:Array Oper}{nt:Nat}{E F H:List Nat}{call:bH}{L:Nat->Prop}{B S:Nat->Prop}{w0 w:World}{tm:Tm}{hp:Tr AO}{nx:Pz}{ι:En}{β:Nat->Nat}{c a:Act}
theorem uj {CF:List Nat}:∀(es CE:List Nat),BN ops E F CF es CE=true->∀i∈es,i∈E/\∀f∈F,lk ops i f=true->f∈CF
 | [],_,_,i,hi=>by simp at hi
 |j::es,CE,hq,i,hi=>by
  simp only[BN,za,zam,zb,zbl,zaq]at hq;obtain⟨⟨⟨⟨q1,q2⟩,q3⟩,q4⟩,q5⟩:=hq;rcases List.mem_cons.1 hi with rfl|hi
  ·exact⟨q1,fun f hf hl=>(q3 f hf).resolve_left (by simp[hl])⟩
  ·exact uj es _ q5 i hi
theorem vp.put {o:Oper}{β:Nat}{d:Option Tmp}{cv:Value}(hs:jB o=true)(h1:∀t,d=some t->t∉o.looksAt ops)(h2:∀t,d=some t->o.dst≠some t)(h:vp P ops B S β a w o):vp P ops B S β (a.put d cv) w o:=by
 have hsame:∀t∈o.looksAt ops,tv a t=tv (a.put d cv) t:=fun t ht=>(fY fun e=>h1 t e ht).symm;have hval:∀t,o.dst=some t->tv (a.put d cv) t=tv a t:=fun t ht=>fY fun e=>h2 t e ht;rcases h with ⟨hk,v,g1,g2⟩|⟨hk,y,e,g1,g2,g3,g4,g5⟩
 ·exact .inl ⟨hk,v,fun w1=>(g1 w1).same hs hsame,fun t ht=>by rw[hval t ht];exact g2 t ht⟩
 ·exact .inr ⟨hk,y,e,g1,g2,g3,g4,fun w1 hw1=>by rw[<-gW hs hsame,hval e g4];exact g5 w1 hw1⟩
theorem vp.world {o:Oper}{β:Nat}{w':World}{S':Nat->Prop}(hS:∀k,S k->S' k)(hw:S β->w'.heap[β]?=w.heap[β]?)(h:vp P ops B S β a w o):vp P ops B S' β a w' o:=by
 rcases h with h|⟨hk,y,e,g1,g2,g3,g4,g5⟩
 ·exact .inl h
 ·exact .inr ⟨hk,y,e,hS _ g1,g2,by rw[hw g1];exact g3,g4,g5⟩
structure xL (P:Program) (ops:Array Oper) (nt:Nat) (E F H:List Nat) (call:bH) (X:List Nat) (K:Tm->Tr AO->Pz->Rs) (nx0:Pz) (ι0:En) (ph:Ph) (rest:List Ph) (CE CF CH:List Nat) (L:Nat->Prop) (B S:Nat->Prop) (w0:World) (tm:Tm) (hp:Tr AO) (nx:Pz) (ι:En) (β:Nat->Nat) (c a:Act) (w:World):Prop where
 sync:Sync P ops nt E F H CE CF CH L B S w0 tm hp nx ι β c a w
 le:nx0.num<=nx.num
 cg:ao nx0 ι0 ι
 ce:∀i∈CE,i∈E
 ch:∀i∈CH,i∈H
 fact:∀i,i∈ph.es∨i∈ph.rs->i∈CE/\qp P ops nt tm hp (ae ops i)/\∀f∈F,lk ops i f=true->f∈CF
 Kp:∀i∈E,i∈ph.es∨i∈ph.rs∨(∃h∈H,h∉CH/\bit (Region.before ops) i h=true)∨∃h∈CH,bit (Region.before ops) h i=true
 Kq:∀f∈F,f∈CF∨f∈ph.sp∨∃h∈H,h∉CH/\bit (Region.before ops) f h=true
 sp:sM ops E F CE ph.sp CF=true
 fs:sM ops E F CE ph.fs CF=true
 run:(dk P nt ops (ph.sp.map (ae ops))).run call tm hp nx (fun _ _ _ =>
  (dk P nt ops (ph.fs.map (ae ops))).run call tm hp nx fun tm hp nx =>
  Option.rec (motive:=fun _=>Rs) (K tm hp nx) (fun h=>(e7 P nt ops (ae ops h)).run call tm hp nx fun tm hp nx=>(oA P nt ops rest).run call tm hp nx K) ph.h)=.ok
 tail:match ph.h with
  |some h=>h∈H/\h∉CH/\(∀h'∈H,h'∈CH∨h'=h∨bit (Region.before ops) h' h=true∨h'∈X)/\(∀f∈F,lk ops h f=true->f∈ph.fs.reverse++CF) /\
   (∀f∈F,f∈ph.fs.reverse++CF∨lk ops f h=false∨bit (Region.before ops) f h=true)/\(∀f∈ph.fs,bit (Region.before ops) h f=true)/\pU ops (Region.before ops) E F H rest CE (ph.fs.reverse++CF) (h::CH)=true
  |none=>(∀i∈E,i∈CE)/\(∀i∈F,i∈ph.fs.reverse++CF)/\∀i∈H,i∈CH
theorem Hs (hr:Rg P ops E F H){X:List Nat}{K:Tm->Tr AO->Pz->Rs}{nx0:Pz}{ι0:En}{ph:Ph}{rest:List Ph}{CE CF CH:List Nat}(h2n:ph.h2=none)(hq:pU ops (Region.before ops) E F H (ph::rest) CE CF CH=true)(hs:Sync P ops nt E F H CE CF CH L B S w0 tm hp nx ι β c a w)
  (hle:nx0.num<=nx.num) (ha:ao nx0 ι0 ι) (hce:∀i∈CE,i∈E) (hch:∀i∈CH,i∈H) (h:(oA P nt ops (ph::rest)).run call tm hp nx K=.ok):∃tm' c',xL P ops nt E F H call X K nx0 ι0 ph rest (ph.es.reverse++CE) CF CH L B S w0 tm' hp nx ι β c' a w:=by
 simp only[pU,za]at hq;obtain⟨⟨⟨⟨⟨⟨q1,q2⟩,q3⟩,q4⟩,q5⟩,q6⟩,q7⟩:=hq
 have h:(dk P nt ops (ph.es.map (ae ops))).run call tm hp nx (fun tm hp nx =>
  (jA P nt ops (ph.rs.map (ae ops))).run call tm hp nx fun tm hp nx =>
  (dk P nt ops (ph.sp.map (ae ops))).run call tm hp nx fun _ _ _ =>
  (dk P nt ops (ph.fs.map (ae ops))).run call tm hp nx fun tm hp nx =>
  Option.rec (motive:=fun _=>Rs) (K tm hp nx) (fun h=>(e7 P nt ops (ae ops h)).run call tm hp nx fun tm hp nx=>(oA P nt ops rest).run call tm hp nx K) ph.h)=.ok:=by
  have h:(SD P nt ops ph (oA P nt ops rest)).run call tm hp nx K=.ok:=h;unfold SD at h;rw[h2n]at h;exact h
 obtain⟨tm',c',h,hs',hf⟩:=xK hr ph.es CE [] tm c q1 hs h (fun g hg=>by simp at hg);simp only[zb,za,zbl,zaq,zam,List.any_eq_true]at q2 q3 q4;have hes:=uj ph.es CE q1
 obtain⟨h,hrs⟩:=j0 _ (fun o ho=>by
  obtain⟨i,hi,rfl⟩:=List.mem_map.1 ho
  exact hr.kE i (hce i (q2 i hi).1)) h
 refine⟨tm',c',hs',hle,ha,fun i hi=>?_,hch,fun i hi=>?_,fun i hi=>?_,fun f hf=>?_,q5,q6,h,?_⟩
 ·rcases List.mem_append.1 hi with hi|hi
  ·exact (hes i (List.mem_reverse.1 hi)).1
  ·exact hce i hi
 ·rcases hi with hi|hi
  ·exact⟨zbz _ (List.mem_reverse.2 hi),hf i (.inr hi),(hes i hi).2⟩
  ·exact⟨zbx _ (q2 i hi).1,hrs _ (List.mem_map.2 ⟨i,hi,rfl⟩),fun f hff hl=>((q2 i hi).2 f hff).resolve_left (by simp[hl])⟩
 ·rcases q3 i hi with ((h1|h1)|⟨h1,h2,h3,h4⟩)|⟨h1,h2,h3⟩
  ·exact .inl h1
  ·exact .inr (.inl h1)
  ·exact .inr (.inr (.inl ⟨h1,h2,by simpa using h3,h4⟩))
  ·exact .inr (.inr (.inr ⟨h1,h2,h3⟩))
 ·rcases q4 f hf with (h1|h1)|⟨h1,h2,h3,h4⟩
  ·exact .inl h1
  ·exact .inr (.inl h1)
  ·exact .inr (.inr ⟨h1,h2,by simpa using h3,h4⟩)
 ·cases hh:ph.h with
  |none =>
   rw[hh,h2n]at q7;simp only[zb,za,zbl]at q7;exact⟨q7.1.1,q7.1.2,q7.2⟩
  |some h' =>
   rw[hh,h2n]at q7;simp only[zb,za,zbl,zaq,zam,beq_iff_eq]at q7;obtain⟨⟨⟨⟨⟨⟨r1,r2⟩,r3⟩,r4⟩,r5⟩,r6⟩,r7⟩:=q7;exact⟨r1,by simpa using r2,fun x hx=>(or_assoc.1 (r3 x hx)).imp_right fun h=>h.imp_right .inl,fun f hf hl=>(r4 f hf).resolve_left (by simp[hl]),fun f hf=>or_assoc.1 (r5 f hf),r6,r7⟩
def J (P:Program)(ops:Array Oper)(nt:Nat)(E F H:List Nat)(call:bH)(B:Nat->Prop)(w0:World)(nx0:Pz)(ι0:En)(Z:Act->World->Prop)(L:Nat->Prop)(a:Act)(w:World):Prop :=
 (∃K,fS B w0 nt ι0 nx0 K Z/\∃ph rest CE CF CH S tm hp nx ι β c,xL P ops nt E F H call [] K nx0 ι0 ph rest CE CF CH L B S w0 tm hp nx ι β c a w)∨
 (∃hA hB KA KB,hA≠hB/\fS B w0 nt ι0 nx0 KA Z/\fS B w0 nt ι0 nx0 KB Z /\
  (∃ph rest CE CF CH S tm hp nx ι β c,ph.h=some hA/\(∀f∈F,f∈CF)/\xL P ops nt E F H call [hB] KA nx0 ι0 ph rest CE CF CH L B S w0 tm hp nx ι β c a w) /\
  (∃ph rest CE CF CH S tm hp nx ι β c,ph.h=some hB/\(∀f∈F,f∈CF)/\xL P ops nt E F H call [hA] KB nx0 ι0 ph rest CE CF CH L B S w0 tm hp nx ι β c a w))
theorem pf {o:Oper}(ho:tD o=true){k:Tm->Tr AO->Pz->Rs}(h:(e7 P nt ops o).run call tm hp nx k=.ok):∃hp',k tm hp' nx=.ok:=by
 unfold tD at ho;simp only[za,Option.isNone_iff_eq_none]at ho;obtain⟨h1,h2,h3⟩:=ho;unfold e7 at h;rw[h3]at h;simp only at h;unfold lK at h;rw[h2]at h;simp only at h;cases cR:o.op with
 |store t x y =>
  unfold yW at h;rw[cR]at h;simp only at h;cases hi:P.info? t with
  |none=>rw[hi]at h;cases h
  |some i =>
   rw[hi]at h;simp only at h;obtain⟨p,h,_⟩:=aQ h;obtain⟨v,h,_⟩:=aQ h;obtain⟨id,off,rfl,g⟩:=g9 h;obtain⟨_,g⟩:=aJ g;obtain⟨hp',g,_⟩:=kr g;exact⟨hp',g⟩
 |_=>rw[cR]at h1;cases h1
theorem uk {h:Nat}{rs:List Nat}(ho:tD (ae ops h)=true)(hk:∀i∈rs,fQ P (ae ops i)=true){K:Tm->Tr AO->Pz->Rs}(hr:(vI P nt ops h rs).run call tm hp nx K=.ok):∃hp',K tm hp' nx=.ok:=by
 have hr:(jA P nt ops (rs.map (ae ops))).run call tm hp nx (fun tm hp nx=>(e7 P nt ops (ae ops h)).run call tm hp nx fun tm hp nx=>K tm hp nx)=.ok:=hr
 obtain⟨hr,_⟩:=j0 _ (fun o ho=>by
  obtain⟨i,hi,rfl⟩:=List.mem_map.1 ho
  exact hk i hi) hr
 exact pf ho hr
theorem Ah {CE CF CH:List Nat}{h:Nat}{rs:List Nat}(ht:xk ops (Region.before ops) E F H h rs CE CF CH=true):pU ops (Region.before ops) E F H (xj h rs) CE CF CH=true/\(∀i∈rs,i∈CE)/\(∀f∈F,f∈CF):=by
 unfold xk at ht;simp only[za]at ht;obtain⟨⟨⟨⟨⟨⟨q1,q2⟩,q3⟩,q4⟩,q5⟩,q6⟩,q7⟩:=ht;refine⟨?_,fun i hi=>?_,fun f hf=>?_⟩
 ·simp only[xj,pU,BN,sM,za,Bool.true_and,List.all_nil,List.reverse_nil,zcz,Bool.and_true];simp only[zb,za,zbl,zaq,zam,beq_iff_eq,List.any_eq_true,List.contains_nil,zcs]at q1 q2 q3 q4 q5 q6 q7 ⊢;refine⟨⟨⟨q1,fun i hi=>?_⟩,fun f hf=>.inl (.inl (q3 f hf))⟩,⟨⟨⟨q5,fun i hi=>?_⟩,fun f hf=>.inr (q3 f hf)⟩,fun f hf=>.inl (.inl (q3 f hf))⟩,⟨fun i hi=>.inr (q7 i hi),fun f hf=>.inl (.inl (q3 f hf))⟩,⟨q2,q3⟩,q4⟩
  ·rcases q6 i hi with (h'|h')|h'
   ·exact .inl (.inl h')
   ·exact .inl (.inr ⟨h,q5.1,q5.2,h'⟩)
   ·exact .inr h'
  ·rcases List.mem_cons.1 (q4 i hi)with h'|h'
   ·exact .inl (.inr h')
   ·exact .inl (.inl h')
 ·have:=(List.all_eq_true.1 q1) i hi;rw[za,zbl]at this;exact this.1
 ·exact List.contains_iff_mem.1 ((List.all_eq_true.1 q3) f hf)
theorem wi (hr:Rg P ops E F H){K:Tm->Tr AO->Pz->Rs}{nx0:Pz}{ι0:En}{Z:Act->World->Prop}(hn:fS B w0 nt ι0 nx0 K Z){ph:Ph}{rest:List Ph}{CE CF CH:List Nat}(hq:pU ops (Region.before ops) E F H (ph::rest) CE CF CH=true)(hs:Sync P ops nt E F H CE CF CH L B S w0 tm hp nx ι β c a w)
  (hle:nx0.num<=nx.num) (ha:ao nx0 ι0 ι) (hce:∀i∈CE,i∈E) (hch:∀i∈CH,i∈H) (h:(oA P nt ops (ph::rest)).run call tm hp nx K=.ok):J P ops nt E F H call B w0 nx0 ι0 Z L a w:=by
 cases h2:ph.h2 with
 |none =>
  obtain⟨tm',c',hh⟩:=Hs hr (X:=[]) h2 hq hs hle ha hce hch h;exact .inl ⟨K,hn,_,_,_,_,_,_,_,_,_,_,_,_,hh⟩
 |some q =>
  obtain⟨hB,rsA,rsB⟩:=q;simp only[pU,za]at hq;obtain⟨⟨⟨⟨⟨⟨q1,q2⟩,q3⟩,q4⟩,q5⟩,q6⟩,q7⟩:=hq;have h:(SD P nt ops ph (oA P nt ops rest)).run call tm hp nx K=.ok:=h;unfold SD at h;rw[h2]at h;simp only at h;cases h1:ph.h with
  |none=>rw[h1]at h;cases h
  |some hA =>
   rw[h1]at h;rw[h1,h2]at q7;simp only[za]at q7;obtain⟨⟨⟨⟨⟨⟨⟨⟨⟨⟨⟨s1,s2⟩,s3⟩,⟨r1,r2⟩⟩,⟨r3,r4⟩⟩,r5⟩,r6⟩,r7⟩,r8⟩,r9⟩,r10⟩,r11⟩:=q7
   have h:(dk P nt ops (ph.es.map (ae ops))).run call tm hp nx (fun tm hp nx =>
    (jA P nt ops (ph.rs.map (ae ops))).run call tm hp nx fun tm hp nx=>MO P nt ops hA hB rsA rsB call tm hp nx K)=.ok:=h
   obtain⟨tm',c',h,hs',hf⟩:=xK hr ph.es CE [] tm c q1 hs h (fun g hg=>by simp at hg);simp only[zb,za,zbl,zaq,zam,List.any_eq_true]at q2 q3 q4;have hes:=uj ph.es CE q1
   obtain⟨h,hrs⟩:=j0 _ (fun o ho=>by
    obtain⟨i,hi,rfl⟩:=List.mem_map.1 ho
    exact hr.kE i (hce i (q2 i hi).1)) h
   have r1:=List.contains_iff_mem.1 r1;have r3:=List.contains_iff_mem.1 r3;have r2:hA∉CH:=fun hm=>by rw[List.contains_iff_mem.2 hm]at r2;cases r2
   have r4:hB∉CH:=fun hm=>by rw[List.contains_iff_mem.2 hm]at r4;cases r4
   have r5:hA≠hB:=fun e=>by rw[e]at r5;simp at r5
   have r7:∀f∈F,f∈CF:=fun f hf=>List.contains_iff_mem.1 ((List.all_eq_true.1 r7) f hf)
   have r6:∀h'∈H,h'∈CH∨h'=hA∨h'=hB:=fun h' hh'=>by
    have:=(List.all_eq_true.1 r6) h' hh';simp only[zaq,beq_iff_eq,zbl]at this;exact or_assoc.1 this
   obtain⟨a1,a2,_⟩:=Ah r10;obtain⟨b1,b2,_⟩:=Ah r11
   have hce':∀i∈ph.es.reverse++CE,i∈E:=fun i hi=>by
    rcases List.mem_append.1 hi with hi|hi
    ·exact (hes i (List.mem_reverse.1 hi)).1
    ·exact hce i hi
   have hfact:∀i,i∈ph.es∨i∈ph.rs->i∈ph.es.reverse++CE/\qp P ops nt tm' hp (ae ops i)/\∀f∈F,lk ops i f=true->f∈CF:=fun i hi=>by
    rcases hi with hi|hi
    ·exact⟨zbz _ (List.mem_reverse.2 hi),hf i (.inr hi),(hes i hi).2⟩
    ·exact⟨zbx _ (q2 i hi).1,hrs _ (List.mem_map.2 ⟨i,hi,rfl⟩),fun f hff hl=>((q2 i hi).2 f hff).resolve_left (by simp[hl])⟩
   have hcovE:∀i∈E,i∈ph.es∨i∈ph.rs∨(∃h∈H,h∉CH/\bit (Region.before ops) i h=true)∨∃h∈CH,bit (Region.before ops) h i=true:=fun i hi=>by
    rcases q3 i hi with ((h1|h1)|⟨h1,h2,h3,h4⟩)|⟨h1,h2,h3⟩
    ·exact .inl h1
    ·exact .inr (.inl h1)
    ·exact .inr (.inr (.inl ⟨h1,h2,by simpa using h3,h4⟩))
    ·exact .inr (.inr (.inr ⟨h1,h2,h3⟩))
   have kA:∀i∈rsA,fQ P (ae ops i)=true:=fun i hi=>hr.kE i (hce' i (a2 i hi));have kB:∀i∈rsB,fQ P (ae ops i)=true:=fun i hi=>hr.kE i (hce' i (b2 i hi))
   -- the first order's run,and what it ends in
   have hA0:(e7 P nt ops (ae ops hA)).run call tm' hp nx (fun tm1 hp1 nx1=>(vI P nt ops hB rsA).run call tm1 hp1 nx1 (BM P nt ops hA hB rsB call tm' hp nx K))=.ok:=h;obtain⟨hp1,g1⟩:=pf r8 hA0;obtain⟨hpA,g2⟩:=uk r9 kA g1;have hB0:(e7 P nt ops (ae ops hB)).run call tm' hp nx (fun tm1 hp1 nx1=>(vI P nt ops hA rsB).run call tm1 hp1 nx1 (xi K tm' hpA nx))=.ok:=g2
   have afA:fS B w0 nt ι0 nx0 (BM P nt ops hA hB rsB call tm' hp nx K) Z:=by
    intro tmx hpx nxx ι2 a' w' hk hle' ha' hs2;have hk:(e7 P nt ops (ae ops hB)).run call tm' hp nx (fun tm1 hp1 nx1=>(vI P nt ops hA rsB).run call tm1 hp1 nx1 (xi K tmx hpx nxx))=.ok:=hk;obtain⟨hp1,hk⟩:=pf r9 hk;obtain⟨hpB,hk⟩:=uk r8 kB hk;obtain⟨_,hk⟩:=aJ hk;obtain⟨_,hk⟩:=aJ hk;obtain⟨_,hk⟩:=aJ hk;exact hn tmx hpx nxx ι2 a' w' hk hle' ha' hs2
   have afB:fS B w0 nt ι0 nx0 (xi K tm' hpA nx) Z:=by
    intro tmx hpx nxx ι2 a' w' hk hle' ha' hs2;obtain⟨e1,k1⟩:=aJ hk;obtain⟨e2,k2⟩:=aJ k1;obtain⟨e3,k3⟩:=aJ k2;have e1:=Ko e1;have e2:=gF _ _ e2;have e3:Part hpA hpx:=j3 _ _ e3;subst e1;subst e2;exact hn _ _ _ ι2 a' w' k3 hle' ha' ⟨s8 e3 (zad _) hs2.1,fun ι' hι=>⟨(hs2.2 ι' hι).1,kZ e3 (hs2.2 ι' hι).2⟩⟩
   refine .inr ⟨hA,hB,_,_,r5,afA,afB,⟨⟨ph.es,ph.rs,[],[],some hA,none⟩,xj hB rsA,ph.es.reverse++CE,CF,CH,S,tm',hp,nx,ι,β,c',rfl,r7,?_⟩,⟨⟨ph.es,ph.rs,[],[],some hB,none⟩,xj hA rsB,ph.es.reverse++CE,CF,CH,S,tm',hp,nx,ι,β,c',rfl,r7,?_⟩⟩
   ·exact⟨hs',hle,ha,hce',hch,hfact,hcovE,fun f hf=>.inl (r7 f hf),rfl,rfl,hA0,r1,r2,fun h' hh'=>(r6 h' hh').imp_right fun h=>h.imp_right fun e=>.inr (by simp[e]),fun f hf _=>r7 f hf,fun f hf=>.inl (r7 f hf),fun f hf=>by simp at hf,a1⟩
   ·exact⟨hs',hle,ha,hce',hch,hfact,hcovE,fun f hf=>.inl (r7 f hf),rfl,rfl,hB0,r3,r4,fun h' hh'=>(r6 h' hh').imp_right fun h=>by
      rcases h with e|e
      ·exact .inr (.inr (by simp[e]))
      ·exact .inl e,fun f hf _=>r7 f hf,fun f hf=>.inl (r7 f hf),fun f hf=>by simp at hf,b1⟩
theorem q8 (hr:Rg P ops E F H){CE CF CH:List Nat}{i:Nat}{cv:Value}(hs:Sync P ops nt E F H CE CF CH L B S w0 tm hp nx ι β c a w)(hi:i<ops.size)(hL:¬L i)(hpre:∀e∈(ae ops i).after,Region.binds .any e=true->L e.on)
  (hiH:i∉H) (hce:∀j∈CE,j∈E) (hiE:i∈E->i∈CE) {w':World} {S':Nat->Prop} {β':Nat->Nat} (hkept:Kept B w0 w') (hsub:∀k,B k->S' k) (hsat:Sat S' w' nt tm hp nx ι c w')
  (hpend:∀f∈F,L f->f∉CF->vp P ops B S (β f) (a.put (ae ops i).dst cv) w (ae ops f)->vp P ops B S' (β' f) (a.put (ae ops i).dst cv) w' (ae ops f)) (hnew:i∈F->vp P ops B S' (β' i) (a.put (ae ops i).dst cv) w' (ae ops i))
  (hinj:∀f∈F,∀g∈F,(f=i∨L f)->(g=i∨L g)->f∉CF->g∉CF->g8 P (ae ops f)=false->g8 P (ae ops g)=false->β' f=β' g->f=g)
  (hlink:∀t,(ae ops i).dst=some t->i∈E->cv=tv c t/\t<nt):Sync P ops nt E F H CE CF CH (fun j=>j=i∨L j) B S' w0 tm hp nx ι β' c (a.put (ae ops i).dst cv) w':=by
 have hicf:i∉CF:=fun h=>hL (hs.fl i h);refine⟨fun j o ho hj e he hb=>?_,fun j hj=>?_,fun j hj=>?_,fun j hj=>.inr (hs.fl j hj),fun j hj hLj=>?_,hkept,hsub,hsat,fun f hf hLf hfc=>?_,hinj,by rw[jE];exact hs.size,by rw[put_defers];exact hs.defers,fun t ht=>?_⟩
 ·rcases hj with rfl|hj
  ·rw[j2 hi]at ho;cases ho;exact .inr (hpre e he hb)
  ·exact .inr (hs.down j o ho hj e he hb)
 ·rcases hj with rfl|hj
  ·exact hi
  ·exact hs.Tg j hj
 ·rw[<-hs.hv j hj];have:j≠i:=fun e=>hiH (e▸hj);simp[this]
 ·rcases hLj with rfl|hLj
  ·exact hiE hj
  ·exact hs.el j hj hLj
 ·rcases hLf with rfl|hLf
  ·exact hnew hf
  ·have hfi:f≠i:=fun e=>hL (e▸hLf);refine hpend f hf hLf hfc ((hs.qs f hf hLf hfc).put (hr.Gy f (hr.MT f hf)) (fun t ht hl=>?_) (fun t ht e=>?_))
   ·have hlk:=si ht hl
    have hcase:i∈E∨i∈F:=by
     rcases hr.Dz i hi with h|h|h
     ·exact .inl h.1
     ·exact .inr h.2.1
     ·exact absurd h.2.2 hiH
    exact hL (gX L hs.down f i hLf ((hr.Kn f (hr.MT f hf) i hcase).1 hlk))
   ·exact (hr.Kn i hi f (.inr hf)).2 (fun e=>hfi e.symm) t e ht
 ·by_cases hd:(ae ops i).dst=some t
  ·rcases hr.Dz i hi with h|h|h
   ·obtain⟨h1,h2⟩:=hlink t hd h.1;rw[hd,jy (by rw[hs.size];exact h2),h1]
   ·exfalso;rcases (ht i (.inr h.2.1) hd).1 (.inl rfl)with h'|h'
    ·exact h.1 (hce i h')
    ·exact hicf h'
   ·exact absurd h.2.2 hiH
  ·rw[fY hd];refine hs.link t fun j hj hjd=>?_;have:=ht j hj hjd;have hji:j≠i:=fun e=>hd (e▸hjd);simpa [hji] using this
theorem MU {listed:Array Bool}{i j:Nat}(h:i<listed.size):((listed.setIfInBounds i true).getD j false=true)=(j=i∨listed.getD j false=true):=by
 apply propext;simp only[zah,zdn];by_cases hj:i=j
 ·subst hj;simp[h]
 ·rw[if_neg hj];have hj':¬j=i:=fun e=>hj e.symm;simp[hj']
theorem pg {r:Option Nat}(hr:Rg P ops E F H){X:List Nat}{K:Tm->Tr AO->Pz->Rs}{nx0:Pz}{ι0:En}{ph:Ph}{rest:List Ph}{CE CF CH:List Nat}{i:Nat}(hh:xL P ops nt E F H call X K nx0 ι0 ph rest CE CF CH L B S w0 tm hp nx ι β c a w)(hops:oD P call)
  (hi:i<ops.size) (hL:¬L i) (hpre:∀e∈(ae ops i).after,Region.binds .any e=true->L e.on) (hiH:i∈H) (hiX:i∉X) {Z:Act->World->Prop} {Q:Exit->Act->World->Prop} {Zn:Act->World->Prop} (hn:fS B w0 nt ι0 nx0 K Zn)
  (hZ:∀a' w',J P ops nt E F H call B w0 nx0 ι0 Zn (fun j=>j=i∨L j) a' w'->Z a' w'):wpOpIn (fw r) 0 P ops Q i Z a w:=by
 have hs:=hh.sync
 have hpreL:∀j,bit (Region.before ops) i j=true->L j:=fun j hb=>by
  have:=gX (fun k=>k=i∨L k) (fun k o ho hk e he hbi=>by
   rcases hk with rfl|hk
   ·rw[j2 hi]at ho;cases ho;exact .inr (hpre e he hbi)
   ·exact .inr (hs.down k o ho hk e he hbi)) i j (.inl rfl) hb
  rcases this with rfl|h
  ·have:=qY hr.xJ _ _ hb;omega
  ·exact h
 obtain⟨hrun,_⟩:=qt hr hs ph.sp CF tm hp nx ι c hh.sp (fun _ h=>h) hh.run (fun ι' hι=>(hs.sat.2 ι' hι).1) hs.link;have htail:=hh.tail;cases hph:ph.h with
 |none =>
  rw[hph]at htail;exact absurd ((hs.hv i hiH).2 (htail.2.2 i hiH)) hL
 |some h =>
  rw[hph]at htail;simp only[hph]at hrun;obtain⟨t1,t2,t3,t4,t5,t6,t7⟩:=htail
  have hih:i=h:=by
   rcases t3 i hiH with h'|h'|h'
   ·exact absurd ((hs.hv i hiH).2 h') hL
   ·exact h'
   ·exact (h'.elim (fun h'=>absurd ((hs.hv h t1).1 (hpreL h h')) t2) (fun h'=>absurd h' hiX))
  subst hih;obtain⟨tm1,hp1,nx1,ι1,S1,c1,g1,g2,g3,hs1⟩:=s7 hr ph.fs CF tm hp nx ι S c hh.fs hs (fun f hf=>hpreL f (t6 f hf)) hrun
  have hsame:∀t∈(ae ops i).looksAt ops,tv a t=tv c1 t:=by
   intro t ht;refine hs1.link t fun j hj hjd=>?_;have hl:=si hjd ht;have hLj:=hpreL j ((hr.Kn i hi j hj).1 hl);refine⟨fun _=>?_,fun _=>hLj⟩;rcases hj with hj|hj
   ·exact .inl (hs.el j hj hLj)
   ·exact .inr (t4 j hj hl)
  have hsel:=hr.Gy i hi
  have fin:∀cv w',(∃v hp' nx' ι2,(oA P nt ops rest).run call (kx (ae ops i).dst tm1 v) hp' nx' K=.ok/\nx1.num<=nx'.num/\ao nx1 ι1 ι2/\Wf hp' nx'/\∀ι',ao nx' ι2 ι'->Core S1 w ι' hp' w'/\cv=ak ι' v)->(∀t,(ae ops i).dst=some t->t<nt)->Z (a.put (ae ops i).dst cv) w':=by
   rintro cv w' ⟨v,hp',nx',ι2,k1,k2,k3,k4,k5⟩ hd
   refine hZ _ _ ?_;have hkept1:Kept S1 w w':=(k5 ι2 (ao.refl _ _)).1.below
   have hs2:Sync P ops nt E F H CE (ph.fs.reverse++CF) (i::CH) (fun j=>j=i∨L j) B S1 w0 (kx (ae ops i).dst tm1 v) hp' nx' ι2 β (c1.put (ae ops i).dst cv) (a.put (ae ops i).dst cv) w':=by
    refine⟨fun j o ho hj e he hb=>?_,fun j hj=>?_,fun j hj=>?_,fun j hj=>.inr (hs1.fl j hj),fun j hj hLj=>?_,hs1.kept.trans (hkept1.mono hs1.sub),hs1.sub,⟨k4,fun ι' hι=>⟨kY (hs1.sat.2 ι' (k3.trans hι k2)).1 hd (k5 ι' hι).2,sk (w1:=w') (k5 ι' hι).1⟩⟩,
     fun f hf hLf hfc=>?_,fun f hf g hg lf lg=>?_,by rw[jE];exact hs.size,by rw[put_defers,put_defers];exact hs1.defers,fun t ht=>?_⟩
    ·rcases hj with rfl|hj
     ·rw[j2 hi]at ho;cases ho;exact .inr (hpre e he hb)
     ·exact .inr (hs.down j o ho hj e he hb)
    ·rcases hj with rfl|hj
     ·exact hi
     ·exact hs.Tg j hj
    ·simp only[List.mem_cons];rw[hs.hv j hj]
    ·rcases hLj with rfl|hLj
     ·exact absurd hj (hr.he hiH).1
     ·exact hs.el j hj hLj
    ·have hfi:f≠i:=fun e=>(hr.he hiH).2 (e▸hf);have hLf:L f:=hLf.resolve_left hfi;refine ((hs1.qs f hf hLf hfc).put (hr.Gy f (hr.MT f hf)) (fun t ht hl=>?_) (fun t ht e=>(hr.Kn i hi f (.inr hf)).2 (fun e=>hfi e.symm) t e ht)).world (fun _ h=>h) (fun h=>hkept1.block _ h);have hlk:=si ht hl;rcases t5 f hf with h'|h'|h'
     ·exact hfc h'
     ·rw[hlk]at h';cases h'
     ·exact hL (gX L hs.down f i hLf h')
    ·have hfi:f≠i:=fun e=>(hr.he hiH).2 (e▸hf);have hgi:g≠i:=fun e=>(hr.he hiH).2 (e▸hg);exact hs1.inj f hf g hg (lf.resolve_left hfi) (lg.resolve_left hgi)
    ·by_cases hdt:(ae ops i).dst=some t
     ·rw[hdt,jy (by rw[hs.size];exact hd t hdt),jy (by rw[(hs1.sat.2 ι1 (ao.refl _ _)).1.size];exact hd t hdt)]
     ·rw[fY hdt,fY hdt];refine hs1.link t fun j hj hjd=>?_;have:=ht j hj hjd;have hji:j≠i:=fun e=>hdt (e▸hjd);simpa [hji] using this
   cases rest with
   |nil=>cases t7
   |cons ph' rest' =>
    exact wi hr (nx0:=nx0) (ι0:=ι0) hn t7 hs2 (by have:=hh.le;omega) (hh.cg.trans (g3.trans k3 g2) hh.le) hh.ce (fun j hj=>by
     rcases List.mem_cons.1 hj with rfl|hj
     ·exact hiH
     ·exact hh.ch j hj) k1
  obtain⟨hd,hgo⟩:=B4 hops g1 hs1.sat (G:=fun cv w'=>∃v hp' nx' ι2,(oA P nt ops rest).run call (kx (ae ops i).dst tm1 v) hp' nx' K=.ok/\nx1.num<=nx'.num/\ao nx1 ι1 ι2/\Wf hp' nx'/\∀ι',ao nx' ι2 ι'->Core S1 w ι' hp' w'/\cv=ak ι' v)
   (fun cv w' v hp' nx' ι2 r1 r2 r3 r4 r5=>⟨v,hp',nx',ι2,r1,r2,r3,r4,r5⟩)
  unfold wpOpIn;rw[j2 hi];simp only;rw[ny hsame];rcases hgo with ⟨hw,hg⟩|⟨hw,hg⟩
  ·rw[if_pos hw];rw[<-gW hsel hsame]at hg;exact hg.wp fun cv w' h=>fin cv w' h hd
  ·rw[if_neg (by rw[hw];decide)];exact⟨fun _ _=>trivial,fin undef w hg hd⟩
theorem Ht (hr:Rg P ops E F H){X:List Nat}{K:Tm->Tr AO->Pz->Rs}{nx0:Pz}{ι0:En}{ph:Ph}{rest:List Ph}{CE CF CH:List Nat}(hh:xL P ops nt E F H call X K nx0 ι0 ph rest CE CF CH L B S w0 tm hp nx ι β c a w)(hall:∀i,i<ops.size->L i){Z:Act->World->Prop}(hn:fS B w0 nt ι0 nx0 K Z):Z a w:=by
 have hs:=hh.sync;obtain⟨hrun,_⟩:=qt hr hs ph.sp CF tm hp nx ι c hh.sp (fun _ h=>h) hh.run (fun ι' hι=>(hs.sat.2 ι' hι).1) hs.link;have htail:=hh.tail;cases hph:ph.h with
 |some h =>
  rw[hph]at htail;exact absurd ((hs.hv h htail.1).1 (hall h (hr.ZD h htail.1))) htail.2.1
 |none =>
  rw[hph]at htail;simp only[hph]at hrun;obtain⟨t1,t2,t3⟩:=htail
  obtain⟨tm1,hp1,nx1,ι1,S1,c1,g1,g2,g3,hs1⟩:=s7 hr ph.fs CF tm hp nx ι S c hh.fs hs (fun f hf=>hall f (hr.MT f (by
   have:=hh.fs
   have key:∀(fs CF:List Nat),sM ops E F CE fs CF=true->∀f∈fs,f∈F:=by
    intro fs
    induction fs with
    |nil=>intro CF _ f hf;simp at hf
    |cons g fs ih =>
     intro CF hq f hf;simp only[sM,za,zbl]at hq;rcases List.mem_cons.1 hf with rfl|hf
     ·exact hq.1.1.1.1
     ·exact ih _ hq.2 f hf
   exact key _ _ this f hf))) hrun
  have hac:a=c1:=by
   obtain⟨ta,da⟩:=a;obtain⟨tc,dc⟩:=c1;have e1:ta.size=nt:=hs.size;have e2:=(hs1.sat.2 ι1 (ao.refl _ _)).1;have e3:tc.size=nt:=e2.size;have e4:da=dc:=hs1.defers
   have:ta=tc:=by
    apply Array.ext
    ·rw[e1,e3]
    ·intro t h1 h2
     have:=hs1.link t fun i hi hid=>by
      rcases hi with hi|hi
      ·exact⟨fun _=>.inl (t1 i hi),fun _=>hall i (hr.Tf i hi)⟩
      ·exact⟨fun _=>.inr (t2 i hi),fun _=>hall i (hr.MT i hi)⟩
     simp only[tv,zah,zbf h1,zbf h2,zcb]at this;exact this
   rw[this,e4]
  refine hn tm1 hp1 nx1 ι1 a w g1 (by have:=hh.le;omega) (hh.cg.trans g3 hh.le) ⟨hs1.sat.1,fun ι' hι=>⟨hac▸(hs1.sat.2 ι' hι).1,?_⟩⟩;have hc:=(hs1.sat.2 ι' hι).2;exact⟨hs1.kept,fun k hk=>hc.room k (hs1.sub k hk),hc.obj,fun id o h1 h2 h3=>hc.base id o h1 h2 (hs1.sub _ h3),hc.sep,hc.eZ⟩
theorem FD (h:Core S w ι hp w)(y:Obj):Core (fun k=>S k∨k=w.heap.size) (w.alloc y) ι hp (w.alloc y):=by
 have hlt:=xx h;refine⟨Kept.refl _ _,fun k hk=>?_,fun i o hi=>?_,fun i o hi ho hk=>?_,h.sep,h.eZ⟩
 ·have hsz:(w.alloc y).heap.size=w.heap.size+1:=by simp
  rcases hk with hk|rfl
  ·have:=h.room k hk;omega
  ·omega
 ·exact (h.obj i o hi).aU (fun x=>x) fun ho=>Below.heap_alloc _ _ _ (hlt i o hi ho)
 ·rcases hk with hk|hk
  ·exact h.base i o hi ho hk
  ·have:=hlt i o hi ho;omega
theorem MW (hr:Rg P ops E F H){CE CF CH:List Nat}{i:Nat}(hs:Sync P ops nt E F H CE CF CH L B S w0 tm hp nx ι β c a w)(hlt:i<ops.size)(hpre:∀e∈(ae ops i).after,Region.binds .any e=true->L e.on):∀j,bit (Region.before ops) i j=true->L j:=fun j hb=>by
 have:=gX (fun k=>k=i∨L k) (fun k o' ho' hk e he hbi=>by
  rcases hk with hk|hk
  ·subst hk;have e0:=j2 hlt;rw[ho']at e0;have e1:=Option.some.inj e0;subst e1;exact .inr (hpre e he hbi)
  ·exact .inr (hs.down k o' ho' hk e he hbi)) i j (.inl rfl) hb
 rcases this with rfl|h
 ·have:=qY hr.xJ _ _ hb;omega
 ·exact h
theorem B7 (hr:Rg P ops E F H){X:List Nat}{K:Tm->Tr AO->Pz->Rs}{nx0:Pz}{ι0:En}{ph:Ph}{rest:List Ph}{CE CF CH:List Nat}{i:Nat}(hh:xL P ops nt E F H call X K nx0 ι0 ph rest CE CF CH L B S w0 tm hp nx ι β c a w)
  (hlt:i<ops.size) (hLi:¬L i) (hpre:∀e∈(ae ops i).after,Region.binds .any e=true->L e.on) (hE:i∈E) (hnF:i∉F) (hnH:i∉H) :
  ∃cv,Yv P ops (ae ops i) a w cv/\xL P ops nt E F H call X K nx0 ι0 ph rest CE CF CH (fun j=>j=i∨L j) B S w0 tm hp nx ι β c (a.put (ae ops i).dst cv) w:=by
 have hs:=hh.sync;have hpreL:=MW hr hs hlt hpre
 have hin:i∈ph.es∨i∈ph.rs:=by
  rcases hh.Kp i hE with h|h|⟨h,h2,h3,h4⟩|⟨h,h2,h3⟩
  ·exact .inl h
  ·exact .inr h
  ·exact absurd ((hs.hv h h2).1 (hpreL h h4)) h3
  ·exact absurd (gX _ hs.down h i ((hs.hv h (hh.ch h h2)).2 h2) h3) hLi
 obtain⟨hce,⟨v,hv1,hv2⟩,hff⟩:=hh.fact i hin;obtain⟨tc,cc⟩:=hs.sat.2 ι (ao.refl _ _)
 have hsame:∀t∈(ae ops i).looksAt ops,tv c t=tv a t:=by
  intro t ht;refine (hs.link t fun j hj hjd=>?_).symm;have hl:=si hjd ht;have hLj:=hpreL j ((hr.Kn i hlt j hj).1 hl);refine⟨fun _=>?_,fun _=>hLj⟩;rcases hj with hj|hj
  ·exact .inl (hs.el j hj hLj)
  ·exact .inr (hff j hj hl)
 have hy:=(hv2 _ _ ι c w tc cc).same (hr.Gy i hlt) hsame;refine⟨_,hy,?_⟩
 refine⟨q8 hr hs hlt hLi hpre hnH hh.ce (fun _=>hce) hs.kept hs.sub hs.sat (fun f _ _ _ h=>h) (fun h=>absurd h hnF) (fun f hf g hg lf lg=>hs.inj f hf g hg (lf.resolve_left fun e=>hnF (e▸hf)) (lg.resolve_left fun e=>hnF (e▸hg))) (fun t ht _=>?_),
  hh.le,hh.cg,hh.ce,hh.ch,hh.fact,hh.Kp,hh.Kq,hh.sp,hh.fs,hh.run,hh.tail⟩
 obtain⟨h2,h3⟩:=hv1 t ht;refine⟨?_,h3⟩;have:=tc.val t;rw[h2]at this;exact this.symm
theorem Hu {r:Option Nat}(hr:Rg P ops E F H)(hops:oD P call){K:Tm->Tr AO->Pz->Rs}{nx0:Pz}{ι0:En}{Q:Exit->Act->World->Prop}{Z Zn:Act->World->Prop}(hn:fS B w0 nt ι0 nx0 K Zn){ph:Ph}{rest:List Ph}{CE CF CH:List Nat}{i:Nat}
  (hh:xL P ops nt E F H call [] K nx0 ι0 ph rest CE CF CH L B S w0 tm hp nx ι β c a w) (hlt:i<ops.size) (hLi:¬L i) (hpre:∀e∈(ae ops i).after,Region.binds .any e=true->L e.on) (ho:ops[i]?=some (ae ops i))
  (next:∀a' w',J P ops nt E F H call B w0 nx0 ι0 Zn (fun j=>j=i∨L j) a' w'->Z a' w'):wpOpIn (fw r) 0 P ops Q i Z a w:=by
  have hs:=hh.sync;have hpreL:=MW hr hs hlt hpre;rcases hr.Dz i hlt with ⟨hE,hnF,hnH⟩|⟨hnE,hF,hnH⟩|⟨hnE,hnF,hH⟩
  ·-- early
   obtain⟨cv,hy,h1⟩:=B7 hr hh hlt hLi hpre hE hnF hnH;exact hy.wp ho (next _ _ (.inl ⟨K,hn,ph,rest,CE,CF,CH,S,tm,hp,nx,ι,β,c,h1⟩))
  ·-- floating
   have hin:i∈ph.sp:=by
    rcases hh.Kq i hF with h|h|⟨h,h2,h3,h4⟩
    ·exact absurd (hs.fl i h) hLi
    ·exact h
    ·exact absurd ((hs.hv h h2).1 (hpreL h h4)) h3
   obtain⟨_,hres⟩:=qt hr hs ph.sp CF tm hp nx ι c hh.sp (fun _ h=>h) hh.run (fun ι' hι=>(hs.sat.2 ι' hι).1) hs.link;obtain⟨hres,hd⟩:=hres i hin hpreL;have hself:∀cv,∀t∈(ae ops i).looksAt ops,tv a t=tv (a.put (ae ops i).dst cv) t:=fun cv t ht=>(fY fun e=>hr.self (.inr hF) e ht).symm
   have hval:∀cv d,(ae ops i).dst=some d->tv (a.put (ae ops i).dst cv) d=cv:=fun cv d hdd=>by
    rw[hdd];exact jy (by rw[hs.size];exact hd d hdd)
   rcases hres with ⟨hk,cv,hy⟩|⟨hk,hg,d,hdd,hy⟩
   ·refine (hy w).wp ho (next _ _ (.inl ⟨K,hn,ph,rest,CE,CF,CH,S,tm,hp,nx,ι,β,c,?_⟩))
    refine⟨q8 hr hs hlt hLi hpre hnH hh.ce (fun h=>absurd h hnE) hs.kept hs.sub hs.sat (fun f _ _ _ h=>h) (fun _=>.inl ⟨hk,cv,fun w1=>(hy w1).same (hr.Gy i hlt) (hself cv),fun d hdd=>hval cv d hdd⟩) (fun f hf g hg lf lg nf ng kf kg=>?_) (fun t ht h=>absurd h hnE),
     hh.le,hh.cg,hh.ce,hh.ch,hh.fact,hh.Kp,hh.Kq,hh.sp,hh.fs,hh.run,hh.tail⟩
    exact hs.inj f hf g hg (lf.resolve_left fun e=>by rw[e,hk]at kf;cases kf) (lg.resolve_left fun e=>by rw[e,hk]at kg;cases kg) nf ng kf kg
   ·obtain⟨cv,y,hrun⟩:=hy w.heap.size;have hroom:∀k,S k->k<w.heap.size:=(hs.sat.2 ι (ao.refl _ _)).2.room;unfold wpOpIn;rw[ho];simp only;rw[if_pos (by simp[Region.wanted,hg])];refine dU.wp (G:=fun cv' w'=>cv'=cv/\w'=w.alloc y) (.inl ⟨cv,_,.inl (hrun w rfl),rfl,rfl⟩) fun cv' w' ⟨e1,e2⟩=>?_;rw[e1,e2];refine next _ _ (.inl ⟨K,hn,ph,rest,CE,CF,CH,(fun k=>S k∨k=w.heap.size),tm,hp,nx,ι,(fun j=>if j=i then w.heap.size else β j),c,?_⟩)
    refine⟨q8 hr hs hlt hLi hpre hnH hh.ce (fun h=>absurd h hnE) (hs.kept.alloc (fun k hk=>hroom k (hs.sub k hk)) y) (fun k hk=>.inl (hs.sub k hk)) ⟨hs.sat.1,fun ι' hι=>⟨(hs.sat.2 ι' hι).1,FD (hs.sat.2 ι' hι).2 y⟩⟩ (fun f hf hLf hfc hp'=>?_) (fun _=>?_) (fun f hf g hg lf lg nf ng kf kg=>?_) (fun t ht h=>absurd h hnE),
     hh.le,hh.cg,hh.ce,hh.ch,hh.fact,hh.Kp,hh.Kq,hh.sp,hh.fs,hh.run,hh.tail⟩
    ·have hfi:f≠i:=fun e=>hLi (e▸hLf);simp only[if_neg hfi];exact hp'.world (fun k hk=>.inl hk) (fun h=>Below.heap_alloc _ _ _ (hroom _ h))
    ·simp only[if_true];refine .inr ⟨hk,y,d,.inr rfl,fun h=>?_,cb _ _,hdd,fun w1 hw1=>?_⟩
     ·have:=hroom _ (hs.sub _ h);omega
     ·rw[<-gW (hr.Gy i hlt) (hself cv),hval cv d hdd];exact hrun w1 hw1
    ·have pb:∀f∈F,L f->f∉CF->g8 P (ae ops f)=false->β f<w.heap.size:=by
       intro f hf lf nf kf;rcases hs.qs f hf lf nf with ⟨p0,_⟩|⟨_,_,_,p1,_⟩
       ·rw[kf]at p0;cases p0
       ·exact hroom _ p1
     by_cases hfi:f=i
     ·by_cases hgi:g=i
      ·exact fun _=>hfi.trans hgi.symm
      ·simp only[if_pos hfi,if_neg hgi];intro e;have:=pb g hg (lg.resolve_left hgi) ng kg;omega
     ·by_cases hgi:g=i
      ·simp only[if_neg hfi,if_pos hgi];intro e;have:=pb f hf (lf.resolve_left hfi) nf kf;omega
      ·simp only[if_neg hfi,if_neg hgi];exact hs.inj f hf g hg (lf.resolve_left hfi) (lg.resolve_left hgi) nf ng kf kg
  ·-- ZE
   exact pg hr hh hops hlt hLi hpre hH (by simp) hn next
theorem PN {r:Option Nat}(hr:Rg P ops E F H)(hops:oD P call){nx0:Pz}{ι0:En}{Q:Exit->Act->World->Prop}:∀(fuel:Nat)(listed:Array Bool)(a:Act)(w:World),listed.size=ops.size->listed.toList.count false<=fuel ->
  J P ops nt E F H call B w0 nx0 ι0 (Q .normal) (fun i=>listed.getD i false=true) a w->wpAnyIn (fw r) 0 P .any ops Q fuel listed a w:=by
 have endq:∀(listed:Array Bool) (a:Act) (w:World),listed.size=ops.size->J P ops nt E F H call B w0 nx0 ι0 (Q .normal) (fun i=>listed.getD i false=true) a w->Region.ready .any ops listed=[]->Q .normal a w:=by
  intro listed a w hsz hj hrd;have hedge:=hr.xJ
  have all:∀i,i<ops.size->listed.getD i false=true:=by
   intro i hi
   induction i using Nat.strongRecOn with
   |ind i ih =>
    rcases Bool.eq_false_or_eq_true (listed.getD i false)with h|h
    ·exact h
    ·exfalso
     have hmem:i∈Region.ready .any ops listed:=by
      rw[mem_ready];refine⟨?_,ae ops i,j2 hi,fun e he hb=>ih e.on (hr.xJ i _ (j2 hi) e he hb) (by have:=hr.xJ i _ (j2 hi) e he hb;omega)⟩;rw[zah,zbf (by omega)]at h ⊢;exact h
     rw[hrd]at hmem;simp at hmem
  rcases hj with ⟨K,hn,ph,rest,CE,CF,CH,S,tm,hp,nx,ι,β,c,hh⟩|⟨hA,hB,KA,KB,hne,afA,afB,⟨ph,rest,CE,CF,CH,S,tm,hp,nx,ι,β,c,_,_,hh⟩,_⟩
  ·exact Ht hr hh all hn
  ·exact Ht hr hh all afA
 intro fuel
 induction fuel with
 |zero =>
  intro listed a w hsz hc hh
  have hrd:Region.ready .any ops listed=[]:=by
   apply List.eq_nil_iff_forall_not_mem.2;intro j hj;rw[mem_ready]at hj;obtain⟨h1,_⟩:=hj
   have hlt:j<listed.size:=by
    rcases zdp j listed.size with h|h
    ·exact h
    ·rw[zah,zef h]at h1;cases h1
   have:false∈listed.toList:=by
    rw[zah,zbf hlt]at h1;simp only[zcb]at h1;rw[<-h1];exact Array.getElem_mem_toList hlt
   have:=List.count_pos_iff.2 this;omega
  exact⟨hrd,endq listed a w hsz hh hrd⟩
 |succ fuel ih =>
  intro listed a w hsz hc hh;refine⟨endq listed a w hsz hh,fun i hi=>?_⟩;rw[mem_ready]at hi;obtain⟨h1,o,ho,hpre⟩:=hi;have hlt:i<ops.size:=(Array.getElem?_eq_some_iff.1 ho).1;have hio:o=ae ops i:=by have:=j2 hlt;rw[ho]at this;exact Option.some.inj this
  subst hio;have hlt':i<listed.size:=by omega
  have hLi:¬listed.getD i false=true:=by
   rw[zah,zbf hlt']at h1 ⊢;simp only[zcb]at h1 ⊢;rw[h1];decide
  have hcount:(listed.setIfInBounds i true).toList.count false<=fuel:=by
   have hf:listed.toList[i]'(by simpa using hlt')=false:=by
    rw[zah,zbf hlt']at h1;simpa using h1
   have h2:(listed.toList.set i true).count false=listed.toList.count false-1:=by
    rw[List.count_set (by simpa using hlt')];simp[hf]
   have h3:0<listed.toList.count false:=List.count_pos_iff.2 (by rw[<-hf];exact zcp _);rw[Array.toList_setIfInBounds,h2];omega
  have hsz':(listed.setIfInBounds i true).size=ops.size:=by simpa using hsz
  have next:∀a' w',J P ops nt E F H call B w0 nx0 ι0 (Q .normal) (fun j=>j=i∨listed.getD j false=true) a' w'->wpAnyIn (fw r) 0 P .any ops Q fuel (listed.setIfInBounds i true) a' w':=by
   intro a' w' h;refine ih _ a' w' hsz' hcount ?_;have e:(fun j=>(listed.setIfInBounds i true).getD j false=true)=fun j=>j=i∨listed.getD j false=true:=funext fun j=>MU hlt';rw[e];exact h
  rcases hh with ⟨K,hn,ph,rest,CE,CF,CH,S,tm,hp,nx,ι,β,c,hh⟩|⟨hA,hB,KA,KB,hne,afA,afB,⟨phA,restA,CEA,CFA,CHA,SA,tmA,hpA,nxA,ιA,βA,cA,eA,fA,hhA⟩,⟨SD,restB,CEB,CFB,CHB,SB,tmB,hpB,nxB,ιB,βB,cB,eB,fB,hhB⟩⟩
  ·exact Hu hr hops hn hh hlt hLi hpre ho next
  ·rcases hr.Dz i hlt with ⟨hE,hnF,hnH⟩|⟨hnE,hF,hnH⟩|⟨hnE,hnF,hH⟩
   ·obtain⟨cv,hy,h1⟩:=B7 hr hhA hlt hLi hpre hE hnF hnH;obtain⟨cv',hy',h2⟩:=B7 hr hhB hlt hLi hpre hE hnF hnH;have e:=hy.PJ hy';subst e;exact hy.wp ho (next _ _ (.inr ⟨hA,hB,KA,KB,hne,afA,afB,⟨_,_,_,_,_,_,_,_,_,_,_,_,eA,fA,h1⟩,⟨_,_,_,_,_,_,_,_,_,_,_,_,eB,fB,h2⟩⟩))
   ·exact absurd (hhA.sync.fl i (fA i hF)) hLi
   ·by_cases hx:i=hB
    ·refine pg hr hhB hops hlt hLi hpre hH (by rw[hx];simpa using fun e=>hne e.symm) afB next
    ·exact pg hr hhA hops hlt hLi hpre hH (by simpa using hx) afA next
theorem DA (hm:P.follows .mixedOrders=true)(hops:oD P call)(nt:Nat):BU P call nt:=by
 intro id ops plan tm hp nx K hg h r B w0 w ι a hs Q hn;unfold tE at hg;cases plan with
 |nil=>cases h
 |cons ph rest =>
  have hg:BO P ops (ph::rest)=true:=by simpa using hg
  unfold BO at hg;simp only[za,zb,List.mem_range,zaq,zam,decide_eq_true_eq,zbl]at hg;obtain⟨⟨⟨⟨⟨⟨⟨⟨⟨h1,h2⟩,h3⟩,h4⟩,h5⟩,h6⟩,h7⟩,h8⟩,h9⟩,h10⟩:=hg
  have hr:Rg P ops ((ph::rest).flatMap (·.es)) ((ph::rest).flatMap (·.fs)) ((ph::rest).flatMap Py):=by
   refine⟨fun i hi=>?_,h2,h3,h4,fun i o ho e he hb=>?_,h6,h7,h8,fun i hi j hj=>?_⟩
   ·have:=h1 i hi;simp only[<-Bool.not_eq_true,zbl]at this;rcases this with (⟨⟨p1,p2⟩,p3⟩|⟨⟨p1,p2⟩,p3⟩)|⟨⟨p1,p2⟩,p3⟩
    ·exact .inl ⟨p1,p2,p3⟩
    ·exact .inr (.inl ⟨p1,p2,p3⟩)
    ·exact .inr (.inr ⟨p1,p2,p3⟩)
   ·have hi:i<ops.size:=(Array.getElem?_eq_some_iff.1 ho).1;have hio:=j2 hi;rw[ho]at hio;have:=Option.some.inj hio;subst this;exact (h5 i hi e (by simpa using he)).resolve_left (by rw[hb];decide)
   ·have:=h9 i hi j (List.mem_append.2 hj);refine⟨fun hl=>this.1.resolve_left (by rw[hl];decide),fun hne d hd hd'=>?_⟩;rcases this.2 with (h'|h')|h'
    ·exact hne (by simpa using h')
    ·rw[hd]at h';cases h'
    ·rw[hd,hd']at h';simp at h'
  refine wpIn_region_any hm ?_
  have hs0:Sync P ops nt ((ph::rest).flatMap (·.es)) ((ph::rest).flatMap (·.fs)) ((ph::rest).flatMap Py) [] [] [] (fun i=>(Array.replicate ops.size false).getD i false=true) B B w0 tm hp nx ι (fun _=>0) a a w.drew:=by
   have no:∀i,¬(Array.replicate ops.size false).getD i false=true:=by
    intro i hi;rw[zah,zdz]at hi;split at hi<;>cases hi
   obtain⟨t0,c0⟩:=hs.2 ι (ao.refl _ _)
   exact⟨fun i o _ hi=>absurd hi (no i),fun i hi=>absurd hi (no i),fun i _=>⟨fun hi=>absurd hi (no i),fun hi=>by simp at hi⟩,fun i hi=>by simp at hi,fun i _ hi=>absurd hi (no i),c0.below.drew,fun k hk=>hk,
    ⟨hs.1,fun ι' hι=>⟨(hs.2 ι' hι).1,sk (w1:=w.drew) (iA (hs.2 ι' hι).2)⟩⟩,fun f _ hf=>absurd hf (no f),fun f _ g _ hf=>absurd hf (no f),t0.size,rfl,fun t _=>rfl⟩
  exact PN hr hops ops.size _ a w.drew (by simp) (by simp) (wi hr (nx0:=nx) (ι0:=ι) hn h10 hs0 (zad _) (ao.refl _ _) (fun i hi=>by simp at hi) (fun i hi=>by simp at hi) h)
end
end Go.aK
namespace Go.aK
open Go.RowKit
section
variable {P:Program}
theorem ao.le {nx nx':Pz}{ι ι':En}(h:ao nx' ι ι')(hle:nx.num<=nx'.num):ao nx ι ι':=fun id hid=>h id (zbj hid hle)
def Th (P:Program)(f:Nat)(args:List AV)(pre:Tr AO)(nx:Pz)(v:AV)(post:Tr AO)(nx':Pz):Prop :=
 ∀B w0 w ι (cargs:Array Value),Wf pre nx->(∀ι',ao nx ι ι'->Core B w0 ι' pre w/\cargs=(aq ι' args).toArray) ->
  dU P (callFunc f cargs) w fun cv w'=>∃ι2,Wf post nx'/\nx.num<=nx'.num/\ao nx ι ι2/\∀ι',ao nx' ι2 ι'->Core B w0 ι' post w'/\cv=ak ι' v
theorem iU (p:Pz):iy p=p.num:=by
 induction p with
 |h=>rfl
 |o p ih=>show 2*iy p=2*p.num;rw[ih]
 |i p ih=>show 2*iy p+1=2*p.num+1;rw[ih]
noncomputable def Ti (v:AV)(post:Tr AO)(nx':Pz)(v':AV)(hp':Tr AO)(nx2:Pz):Rs :=
 bM (rT v v') (bM (Nat.ble (iy nx2) (iy nx')) (bM (pT post hp') .ok (.bad 242)) (.bad 241)) (.bad 240)
theorem PO {call:bH}(hcall:oY P call){f:Nat}{args:List AV}{pre post:Tr AO}{nx nx':Pz}{v:AV}(h:call.run f args pre nx (Ti v post nx')=.ok):Th P f args pre nx v post nx':=by
 intro B w0 w ι cargs hw hc;refine hcall.1 f args pre nx _ h B w0 w ι cargs hw hc _ (fun v' hp' nx2 ι2 cv w' hk hw' hle ha hcc=>?_);obtain⟨h1,hk⟩:=aJ hk;obtain⟨h2,hk⟩:=aJ hk;obtain⟨h3,hk⟩:=aJ hk;have h1:=nz _ _ h1;have h2:=aN h2;rw[iU,iU]at h2;have h3:Part post hp':=j3 _ _ h3;subst h1;exact⟨ι2,s8 h3 h2 hw',zay hle h2,ha,fun ι' hι=>⟨kZ h3 (hcc ι' (hι.le h2)).1,(hcc ι' (hι.le h2)).2⟩⟩
def j4:AO->Bool
 |.arr _ _ _ _=>true
 |.map _ _=>true
 |_=>false
noncomputable def wj (t:Tr AO)(id:Pz)(r:Rs):Rs:=match t.get id with|none=>r|some _=>.bad 243
noncomputable def Hw (pre hp:Tr AO)(ids:List Pz):Tr AO->(Tr AO->Rs)->Rs :=
 List.rec (motive:=fun _=>Tr AO->(Tr AO->Rs)->Rs) (fun post k=>k post)
  (fun id _ ih post k=>hp.gx id (.bad 244) fun o=>bM (j4 o) (wj pre id (wj post id (post.du id o fun post=>ih post k))) (.bad 245)) ids
structure cC where
 args:List AV
 pre:Tr AO
 nx:Pz
 v:AV
 post:Tr AO
 nx':Pz
 aU:List Pz
def B8:AV->Bool
 |.bool _=>true
 |.int _ _=>true
 |.str _ _=>true
 |_=>false
theorem FE {v:AV}(h:B8 v=true)(ι ι':En):ak ι v=ak ι' v:=by
 cases v<;>simp[B8]at h<;>simp[ak]
def Ww:Tr AO->Bool
 |.e=>true
 |_=>false
theorem PQ {t:Tr AO}(h:Ww t=true):t=.e:=by cases t<;>simp[Ww]at h;rfl
theorem Ai {B:Nat->Prop}{w0 w:World}{ι:En}(h:Core B w0 ι .e w)(ι':En):Core B w0 ι' .e w:=by
 refine⟨h.below,h.room,?_,?_,?_,?_⟩
 ·intro id o hid;rw[Tr.gy]at hid;cases hid
 ·intro id o hid;rw[Tr.gy]at hid;cases hid
 ·intro id id' o o' _ hid;rw[Tr.gy]at hid;cases hid
 ·intro id id' f ep es n el c f' ep' tp' es' n' el' c' _ hid;rw[Tr.gy]at hid;cases hid
noncomputable def Hx (m:cC)(args:List AV)(hp:Tr AO)(nx:Pz)(k:AV->Tr AO->Pz->Rs)(z:Rs):Rs :=
 bM (tC m.args args) (bM (Nat.ble (iy nx) (iy m.nx)) (bM (pT m.pre hp) (Hw m.pre hp m.aU m.post fun hp'=>bM (Ww m.post&&B8 m.v) (k m.v hp' nx) (k m.v hp' m.nx')) z) z) z
noncomputable def B9 (ms:List cC)(args:List AV)(hp:Tr AO)(nx:Pz)(k:AV->Tr AO->Pz->Rs)(z:Rs):Rs :=
 List.rec (motive:=fun _=>Rs) z (fun m _ ih=>Hx m args hp nx k ih) ms
theorem Aj {t:Tr AO}{id:Pz}{r:Rs}(h:wj t id r=.ok):t.get id=none/\r=.ok:=by
 unfold wj at h;cases hg:t.get id with
 |none=>rw[hg]at h;exact⟨rfl,h⟩
 |some o=>rw[hg]at h;cases h
theorem Ak {pre hp:Tr AO}:∀(ids:List Pz)(post:Tr AO)(k:Tr AO->Rs),Hw pre hp ids post k=.ok ->
  ∃hp',k hp'=.ok/\(∀id,id∈ids->∃o,hp.get id=some o/\j4 o=true/\pre.get id=none/\post.get id=none/\hp'.get id=some o)/\∀id,id∉ids->hp'.get id=post.get id
 | [],post,k,h=>⟨post,h,fun id hid=>by simp at hid,fun _ _=>rfl⟩
 |id::ids,post,k,h=>by
  have h:(hp.gx id (.bad 244) fun o=>bM (j4 o) (wj pre id (wj post id (post.du id o fun post=>Hw pre hp ids post k))) (.bad 245))=.ok:=h;obtain⟨o,ho,h⟩:=dm h;obtain⟨h1,h⟩:=aJ h;obtain⟨h2,h⟩:=Aj h;obtain⟨h3,h⟩:=Aj h;rw[Tr.cK]at h;obtain⟨hp',hk,g1,g2⟩:=Ak ids _ k h
  have hid:id∉ids:=fun hm=>by
   obtain⟨_,_,_,_,g,_⟩:=g1 id hm;rw[Tr.bu]at g;cases g
  refine⟨hp',hk,fun j hj=>?_,fun j hj=>?_⟩
  ·rcases List.mem_cons.1 hj with rfl|hj
   ·exact⟨o,ho,h1,h2,h3,by rw[g2 _ hid,Tr.bu]⟩
   ·obtain⟨o',a1,a2,a3,a4,a5⟩:=g1 j hj;have hne:j≠id:=fun e=>hid (e▸hj);rw[Tr.dw hne]at a4;exact⟨o',a1,a2,a3,a4,a5⟩
  ·simp only[List.mem_cons,not_or]at hj;rw[g2 j hj.2,Tr.dw hj.1]
theorem la {o:AO}(h:j4 o=true)(hp:Tr AO):own hp o/\gR o=none/\(∀e s,o≠.cO e s):=by
 cases o<;>simp[j4]at h<;>exact⟨trivial,rfl,fun _ _=>by simp⟩
theorem Hy {o:AO}(h:j4 o=true){ι:En}{hp:Tr AO}{w:World}{id:Pz}(ho:jk ι hp w id o):ι.aY id<w.heap.size:=by
 cases o<;>simp[j4]at h
 ·obtain⟨C,fz,h1,_⟩:=ho;exact (Array.getElem?_eq_some_iff.1 h1).1
 ·obtain⟨E,h1,_⟩:=ho;exact (Array.getElem?_eq_some_iff.1 h1).1
theorem wk {B:Nat->Prop}{w0 w w':World}{ι ι':En}{nx nx1:Pz}{hp pre post hp':Tr AO}{ids:List Pz}(hw:Wf hp nx)(hle:nx.num<=nx1.num)
  (g1:∀id,id∈ids->∃o,hp.get id=some o/\j4 o=true/\pre.get id=none/\post.get id=none/\hp'.get id=some o) (g2:∀id,id∉ids->hp'.get id=post.get id)
  (hag:ao nx ι ι') (hc:Core B w0 ι' hp w) (hn:Core (fun k=>B k∨∃id,id∈ids/\ι.aY id=k) w ι' post w'):Core B w0 ι' hp' w':=by
 have hblk:∀id,id∈ids->ι'.aY id=ι.aY id:=fun id hid=>by
  obtain⟨o,a1,_⟩:=g1 id hid;exact (hag id (hw.lt id o a1)).1
 have hliv:∀f ep,live hp' f ep->live post f ep:=by
  rintro f ep ⟨s,hf⟩
  by_cases hm:f∈ids
  ·obtain⟨o,a1,a2,a3,a4,a5⟩:=g1 f hm;rw[a5]at hf;cases hf;simp[j4]at a2
  ·rw[g2 f hm]at hf;exact⟨s,hf⟩
 have hown:∀o,own hp' o->own post o:=by
  intro o ho;cases o with
  |bX=>exact hliv _ _ ho
  |cO=>exact ho
  |arr=>trivial
  |map=>trivial
  |iter=>trivial
  |loop=>trivial
  |gv=>trivial
  |gone=>trivial
 refine⟨hc.below.trans (hn.below.mono fun k hk=>.inl hk),fun k hk=>hn.room k (.inl hk),fun id o hid=>?_,fun id o hid ho=>?_,fun id id' o o' hne hid hid' ho ho' hb=>?_,fun id id' f ep es n el c f' ep' tp' es' n' el' c' hne hid hid' hl hl'=>?_⟩
 ·by_cases hm:id∈ids
  ·obtain⟨o',a1,a2,a3,a4,a5⟩:=g1 id hm;rw[a5]at hid;cases hid;refine (hc.obj id o a1).aU (fun _=>(la a2 hp).1) (fun _=>?_);exact hn.below.block _ (.inr ⟨id,hm,(hblk id hm).symm⟩)
  ·rw[g2 id hm]at hid;exact (hn.obj id o hid).aU (hown o) (fun _=>rfl)
 ·by_cases hm:id∈ids
  ·obtain⟨o',a1,a2,a3,a4,a5⟩:=g1 id hm;rw[a5]at hid;cases hid;exact hc.base id o a1 (la a2 hp).1
  ·rw[g2 id hm]at hid;exact fun hb=>hn.base id o hid (hown o ho) (.inl hb)
 ·by_cases hm:id∈ids
  ·obtain⟨x,a1,a2,a3,a4,a5⟩:=g1 id hm;rw[a5]at hid;cases hid;by_cases hm':id'∈ids
   ·obtain⟨x',b1,b2,b3,b4,b5⟩:=g1 id' hm';rw[b5]at hid';cases hid';exact hc.sep id id' o o' hne a1 b1 (la a2 hp).1 (la b2 hp).1 hb
   ·rw[g2 id' hm']at hid';exact absurd (Or.inr ⟨id,hm,by rw[<-hblk id hm,hb]⟩) (hn.base id' o' hid' (hown o' ho'))
  ·rw[g2 id hm]at hid;by_cases hm':id'∈ids
   ·exact absurd (Or.inr ⟨id',hm',by rw[<-hblk id' hm',hb]⟩) (hn.base id o hid (hown o ho))
   ·rw[g2 id' hm']at hid';exact hn.sep id id' o o' hne hid hid' (hown o ho) (hown o' ho') hb
 ·have hm:id∉ids:=fun hm=>by
    obtain⟨x,a1,a2,a3,a4,a5⟩:=g1 id hm;rw[a5]at hid;cases hid;simp[j4]at a2
  have hm':id'∉ids:=fun hm=>by
   obtain⟨x,a1,a2,a3,a4,a5⟩:=g1 id' hm;rw[a5]at hid';cases hid';simp[j4]at a2
  rw[g2 id hm]at hid;rw[g2 id' hm']at hid';exact hn.eZ id id' f ep es n el c f' ep' tp' es' n' el' c' hne hid hid' (hliv _ _ hl) (hliv _ _ hl')
theorem DB {nx nx1:Pz}{hp pre post hp':Tr AO}{ids:List Pz}(hw:Wf hp nx)(hle:nx.num<=nx1.num)(hp1:Wf post nx1)
  (g1:∀id,id∈ids->∃o,hp.get id=some o/\j4 o=true/\pre.get id=none/\post.get id=none/\hp'.get id=some o) (g2:∀id,id∉ids->hp'.get id=post.get id):Wf hp' nx1:=by
 have hfam:∀f e s,hp'.get f=some (.cO e s)->post.get f=some (.cO e s):=by
  intro f e s hf;by_cases hm:f∈ids
  ·obtain⟨o,a1,a2,a3,a4,a5⟩:=g1 f hm;rw[a5]at hf;cases hf;simp[j4]at a2
  ·rwa[g2 f hm]at hf
 have hseg:∀id f ep tp es n el c,hp'.get id=some (.bX f ep tp es n el c)->post.get id=some (.bX f ep tp es n el c):=by
  intro id f ep tp es n el c hf;by_cases hm:id∈ids
  ·obtain⟨o,a1,a2,a3,a4,a5⟩:=g1 id hm;rw[a5]at hf;cases hf;simp[j4]at a2
  ·rwa[g2 id hm]at hf
 refine⟨fun id o hid=>?_,fun id f ep tp es n el c hid=>hp1.cO _ _ _ _ _ _ _ _ (hseg _ _ _ _ _ _ _ _ hid),fun id f ep tp es n el c e s hid hf=>hp1.ep _ _ _ _ _ _ _ _ _ _ (hseg _ _ _ _ _ _ _ _ hid) (hfam _ _ _ hf),
  fun f e id id' tp es n el c tp' es' n' el' c' hf hid hid'=>hp1.iw _ _ _ _ _ _ _ _ _ _ _ _ _ _ (hfam _ _ _ hf) (hseg _ _ _ _ _ _ _ _ hid) (hseg _ _ _ _ _ _ _ _ hid')⟩
 by_cases hm:id∈ids
 ·obtain⟨x,a1,_⟩:=g1 id hm;exact zbj (hw.lt id x a1) hle
 ·rw[g2 id hm]at hid;exact hp1.lt id o hid
def cC.Ok (P:Program)(f:Nat)(m:cC):Prop:=Th P f m.args m.pre m.nx m.v m.post m.nx'
theorem Ca {b:Bool}{x z:Rs}(h:bM b x z=.ok):(b=true/\x=.ok)∨z=.ok:=by
 cases b with
 |true=>exact .inl ⟨rfl,h⟩
 |false=>exact .inr h
theorem Kr {f:Nat}{m:cC}(hm:m.Ok P f){args:List AV}{hp:Tr AO}{nx:Pz}{k:AV->Tr AO->Pz->Rs}{z:Rs}(h:Hx m args hp nx k z=.ok):xA P f args hp nx k∨z=.ok:=by
 unfold Hx at h;rcases Ca h with ⟨h1,h⟩|h
 ·rcases Ca h with ⟨h2,h⟩|h
  ·rcases Ca h with ⟨h3,h⟩|h
   ·left;have h1:=lU _ _ h1;have h2:=aN h2;rw[iU,iU]at h2;have h3:Part m.pre hp:=j3 _ _ h3;obtain⟨hp',hk,g1,g2⟩:=Ak _ _ _ h;intro B w0 w ι cargs hw hc G hG;subst h1
    have hrun:=hm (fun k=>B k∨∃id,id∈m.aU/\ι.aY id=k) w w ι cargs (s8 h3 h2 hw) (fun ι' hι=>by
     have hι:=hι.le h2;obtain⟨c1,e1⟩:=hc ι' hι;have cp:=kZ h3 c1;refine⟨⟨Kept.refl _ _,fun k hk=>?_,cp.obj,fun id o hid ho=>?_,cp.sep,cp.eZ⟩,e1⟩
     ·rcases hk with hk|⟨id,hid,rfl⟩
      ·exact c1.room k hk
      ·obtain⟨o,a1,a2,_⟩:=g1 id hid;have:=Hy a2 (c1.obj id o a1);rwa[(hι id (hw.lt id o a1)).1]at this
     ·rintro (hb|⟨id',hid',hb⟩)
      ·exact cp.base id o hid ho hb
      ·obtain⟨o',a1,a2,a3,_⟩:=g1 id' hid';have hne:id≠id':=fun e=>by rw[e,a3]at hid;cases hid
       obtain⟨fm,_,q⟩:=c1.sep id id' o o' hne (h3 _ _ hid) a1 (h3.own ho) (la a2 hp).1 (by rw[(hι id' (hw.lt id' o' a1)).1,hb]);rw[(la a2 hp).2.1]at q
       cases q)
    refine dU.mono hrun fun cv w'=>?_
    rintro⟨ι2,hwp,hle,ha,hcc⟩
    rcases bW hk with ⟨hb,hk⟩|⟨hb,hk⟩
    ·rw[za]at hb;have he:=PQ hb.1;obtain⟨q1,q2⟩:=hcc ι2 (ao.refl _ _);rw[he]at q1;rw[he]at g1 g2;refine hG m.v hp' nx ι cv w' hk (DB hw (zad _) ⟨?_,?_,?_,?_⟩ g1 g2) (zad _) (ao.refl _ _) fun ι' hι=>⟨wk hw (zad _) g1 g2 hι (hc ι' hι).1 (Ai q1 ι'),by rw[q2];exact FE hb.2 _ _⟩
     ·intro id o hid;rw[Tr.gy]at hid;cases hid
     ·intro id f ep tp es n el c hid;rw[Tr.gy]at hid;cases hid
     ·intro id f ep tp es n el c e s hid;rw[Tr.gy]at hid;cases hid
     ·intro f e id id' tp es n el c tp' es' n' el' c' hid;rw[Tr.gy]at hid;cases hid
    ·have hle':=zay h2 hle;refine hG m.v hp' m.nx' ι2 cv w' hk (DB hw hle' hwp g1 g2) hle' (ha.le h2) fun ι' hι=>⟨?_,(hcc ι' hι).2⟩;have hag:ao nx ι ι':=(ha.le h2).trans hι hle';exact wk hw hle' g1 g2 hag (hc ι' hag).1 (hcc ι' hι).1
   ·exact .inr h
  ·exact .inr h
 ·exact .inr h
theorem Al {f:Nat}:∀(ms:List cC),(∀m∈ms,m.Ok P f)->∀{args:List AV}{hp:Tr AO}{nx:Pz}{k:AV->Tr AO->Pz->Rs}{z:Rs},B9 ms args hp nx k z=.ok->xA P f args hp nx k∨z=.ok
 | [],_,args,hp,nx,k,z,h=>.inr h
 |m::ms,hm,args,hp,nx,k,z,h=>by
  rcases Kr (hm m (by simp)) (z:=B9 ms args hp nx k z) h with h|h
  ·exact .inl h
  ·exact Al ms (fun m' h'=>hm m' (by simp[h'])) h
noncomputable def Hz (P:Program)(Pl:Nat->Nat->List Ph)(ms:Nat->List cC)(fu d:Nat):bH :=
 Nat.rec (motive:=fun _=>bH) ⟨fun _ _ _ _ _=>.bad 196,fun _ _ _ _ _ _ _=>.bad 196⟩ (fun _ ih=>⟨fun f args hp nx k=>B9 (ms f) args hp nx k ((VX P Pl f).run fu ih args hp nx k),Tb P Pl fu ih⟩) d
theorem cu (hm:P.follows .mixedOrders=true)(Pl:Nat->Nat->List Ph)(hpl:∀f fn c,P.funcs[f]?=some fn->fn.body=some c->dE P (Pl f) c=true)(ms:Nat->List cC)(MX:∀f m,m∈ms f->m.Ok P f)(fu:Nat):∀d,oY P (Hz P Pl ms fu d)
 |0=>by
  refine⟨fun f args hp nx k h=>?_,fun f nt c tm hp nx K h=>?_⟩
  ·cases h
  ·cases h
 |d+1=>by
  have ih:=cu hm Pl hpl ms MX fu d;have hops:=PI ih;refine⟨fun f args hp nx k h=>?_,fun f nt c tm hp nx K h hno l B w0 w ι a hs Q hn=>?_⟩
  ·rcases Al (ms f) (fun m hm=>MX f m hm) (z:=(VX P Pl f).run fu (Hz P Pl ms fu d) args hp nx k) h with h|h
   ·exact h
   ·exact PG (z8 ih) fu Pl hpl hops (fun nt=>DA hm hops nt) h
  ·have h:bM (dE P (Pl f) c) ((yX P f nt (Pl f) c).run fu (Hz P Pl ms fu d) tm hp nx K) (.bad 293)=.ok:=h;obtain⟨hp',h⟩:=aJ h;exact Dv (r:=some l) hops (DA hm hops nt) (z8 ih) c hp' (.inr hno) fu tm hp nx K h hs hn
end
end Go.aK
namespace Go.aK
open Go.RowKit
section
variable {P:Program}
def um (W W':World):Prop:=Kept (fun k=>k<W.heap.size) W W'
theorem um.keptBut {W W':World}(h:um W W')(may:MemPlace->Prop):W.keptBut W' may:=by
 refine⟨h.os,h.output,fun i hi=>?_⟩;rw[h.block i hi];cases hb:W.heap[i]? with
 |none=>rfl
 |some o =>
  cases o with
  |cells c t fr=>exact⟨rfl,rfl,rfl,fun _ _=>rfl⟩
  |map es c=>exact .inr ⟨rfl,rfl⟩
  |_=>rfl
theorem um.frozen {W W':World}(h:um W W'){a:Addr}(ha:a.block<W.heap.size):W'.frozen? a=W.frozen? a:=by
 unfold World.frozen?;rw[h.block a.block ha]
theorem uo (W:World)(ι:En):Core (fun k=>k<W.heap.size) W ι .e W :=
 have no:∀{id:Pz} {o:AO} {p:Prop},(Tr.e:Tr AO).get id=some o->p:=fun h=>by rw[Tr.gy]at h;cases h
 ⟨Kept.refl _ _,fun _ h=>h,fun _ _ h=>no h,fun _ _ h=>no h,fun _ _ _ _ _ h=>no h,fun _ _ _ _ _ _ _ _ _ _ _ _ _ _ _ _ h=>no h⟩
theorem Am (nx:Pz):Wf .e nx :=
 have no:∀{id:Pz} {o:AO} {p:Prop},(Tr.e:Tr AO).get id=some o->p:=fun h=>by rw[Tr.gy]at h;cases h
 ⟨fun _ _ h=>no h,fun _ _ _ _ _ _ _ _ h=>no h,fun _ _ _ _ _ _ _ _ _ _ h _=>no h,fun _ _ _ _ _ _ _ _ _ _ _ _ _ _ h _=>no h⟩
theorem Ao {f:Nat}{fn:Func}{args:Array Value}{w:World}{G:Value->World->Prop}(hf:P.funcs[f]?=some fn)(hb:fn.body.isNone=false)(hn:(fn.name == "runtime.NumGoroutine")=false)(h:dU P (callFunc f args) w G) :
  Calls P f args w fun e w'=>∃cv,e=.returned cv/\G cv w':=by
 have hrun:(callFunc f args).run P w=.ok (.enter f args) w:=by
  simp only[callFunc,Sem.run_bind,run_program,Result.andThen_ok,hf,hn,hb,zaf,if_false,Sem.run_pure]
 rcases h with ⟨cv,w',h|⟨h,_⟩,_⟩|⟨f',args',w',h,hc⟩|⟨l,f',tmps,x,y,w',h,_⟩
 ·rw[hrun]at h;cases h
 ·rw[hrun]at h;cases h
 ·rw[hrun]at h;cases h;exact hc
 ·rw[hrun]at h;cases h
end
open Go.RowKit Go.ChangeShapes Go.WideShapes in
theorem vd {H:Type}{enc:TypeId×Value->H}{P:Program}{f:Func}{s:ChangeSpec}{apart fresh handsOn again:Bool}{W W':World}{args:Array Value}{v:Value}{ds gs:List (DataW H)}{before pa pv:List MemPlace}
  (hW:DataW.Whole enc P f.params.toList s.vars apart W args.toList ds gs before)
  (hres:∀(b:Nat) (sp:Nat->Bool) (hd:Bool),DataW.TrodAll enc P W' b sp hd f.resultTypes.toList (v.resultList f.resultTypes.size) (s.fn H (ds++gs)).results [])
  (hargs:∀sp:Nat->Bool,(∀p∈before,sp p.block=true)->DataW.TrodAll enc P W' 0 sp true f.params.toList args.toList (s.fn H (ds++gs)).args pa)
  (hvars:∀sp:Nat->Bool,(∀p∈before,sp p.block=true)->DataW.TrodVars enc P W' sp s.vars (s.fn H (ds++gs)).vars pv)
  (hps:before=pa++pv) (hk:um W W')
  (hok:∀(j:Nat) (t:TypeId) (r:Value),f.resultTypes[j]?=some t->(v.resultList f.resultTypes.size)[j]?=some r->Value.okWide P W' .any 0 t r) :
  s.post enc P f apart fresh handsOn again W args v W':=by
 have hlt:∀p∈before,p.block<W.heap.size:=fun p hp=>hW.lt p hp;have hold:∀p∈before,(fun b=>decide (b<W.heap.size)) p.block=true:=fun p hp=>by simpa using hW.lt p hp
 refine⟨ds,gs,before,[],pa,pv,hW,hres _ _ _,hargs _ hold,hvars _ hold,World.keptBut_mono (fun p hp=>⟨hp,?_⟩) (hk.keptBut (·∈before)),fun _=>?_⟩
 ·rw[hps,List.mem_append]at hp;exact Or.inr hp
 ·obtain⟨_,_,_,_,_,hz,hn⟩:=hW;refine⟨hok,_,_,([]++pa)++pv,⟨[]++pa,pv,trodAll_append (hargs _ (fun _ _=>rfl)) (hres _ _ _),hvars _ (fun _ _=>rfl),rfl,?_,?_⟩,?_⟩
  ·intro b off hp;have hm:MemPlace.cell b off∈before:=by rw[hps];simpa using hp
   rw[hk.frozen (hlt _ hm)];exact hz b off hm
  ·intro ha;have:=hn ha;rw[hps]at this;simpa using this
  ·intro p hp _;rw[hps];simpa using hp
end Go.aK
namespace Go.aK
noncomputable section
def p (es rs sp fs:List Nat)(h:Option Nat):Ph:=⟨es,rs,sp,fs,h,none⟩
 abbrev PL:=List (Nat×List Ph)
def zu (n:Nat):List Nat:=Nat.rec (motive:=fun _=>Nat->List Nat) (fun _=>[]) (fun _ ih i=>i::ih (Nat.succ i)) n 0
def zq:Ph:=p [] [] [] [] none
def zv (n:Nat):Ph:=p [] [] [] [] (some n)
def zw (l:List Nat)(n:Nat):Ph:=p l [] [] [] (some n)
def zx (l:List Nat):Ph:=p l [] [] [] none
def fp {α:Type}(z:α)(n:Nat)(l:List (Nat×α)):α:=List.rec (motive:=fun _=>α) z (fun p _ ih=>Bool.rec (motive:=fun _=>α) ih p.2 (Nat.beq p.1 n)) l
def plz10:PL:=[
 (40,[zw (zu 10) 10,p [] [9] [] [] (some 11),zq]),
 (41,[zx (zu 23)]),
 (44,[zw (zu 13) 13,p [14] (zu 5) [] [] (some 15),zq])]
def plz11:PL:=[
 (5,[zw (zu 10) 10,p [] [9] [] [] (some 11),zq]),
 (7,[zw (zu 7) 7,zq]),
 (18,[zw (zu 10) 10,p [] [9] [] [] (some 11),zq]),
 (20,[p (zu 15) [] [15] [15] (some 16),p [17] (zu 6) [] [] (some 18),zq])]
def plz34:PL:=[
 (23,[p (zu 17) [] [17,18,19] [17,18,19] (some 20),zv 21,zq])]
def plz43:PL:=[
 (3,[p [1] [] [3] [] (some 0),p [2] [1] [3] [3] (some 4),zq]),
 (4,[p [0,3,6] [] [1,4,7,11] [1] (some 2),p [] [3,6] [4,7,11] [4] (some 5),p [] [6] [7,11] [7] (some 8),p [] [] [11] [] (some 9),p [10] [] [11] [11] (some 12),p [] [] [13] [13] (some 14),zq])]
def plz44:PL:=[
 (1,[zw (zu 10) 10,p [] [9] [] [] (some 11),zq]),
 (3,[zw (zu 11) 11,zq]),
 (4,[zw (zu 6) 6,p [] (zu 5) [7] [7] (some 8),p [9,10] [0] [] [] (some 11),zq])]
def plz45:PL:=[
 (1,[zw (zu 10) 10,p [] [9] [] [] (some 11),zq]),
 (3,[zw (zu 11) 11,zq]),
 (4,[zw (zu 6) 6,p [] (zu 5) [7] [7] (some 8),p [9,10] [0] [] [] (some 11),zq])]
def plz48:PL:=[
 (6,[zw (zu 13) 13,p [] [12] [] [] (some 14),zq]),
 (8,[zw (zu 10) 10,zq])]
def plz50:PL:=[
 (6,[p (zu 11) [] [11] [11] (some 12),p [13,14] [0] [] [] (some 15),zq]),
 (20,[zw (zu 7) 7,p [] [0] [] [] (some 8),zv 9,zq]),
 (21,[zw (zu 10) 10,p [] (zu 5) [11] [11] (some 12),p [13,14] [0] [] [] (some 15),zq])]
def plz70:PL:=[
 (12,[zw (zu 9) 9,zx [10,11]]),
 (13,[p (zu 4) [] [6] [] (some 4),p [5] [0,1] [6] [6] (some 7),zq]),
 (17,[zw [0,1,2] 3,p [] [0,1] [4] [4] (some 5),zw [6] 7,zq])]
def plz71:PL:=[
 (5,[zw [0,2,4,6] 1,p [] [2,4,6] [] [] (some 3),p [] [4,6] [] [] (some 5),p [] [6] [] [] (some 7),zv 8,zv 9,zv 10,zq])]
def plz76:PL:=[
 (10,[p [0,2,3] [] [8] [] (some 1),p [] [2,3] [8] [] (some 4),p [5,6,7] [] [8] [8] (some 9),p [] [7] [] [] (some 10),zq]),
 (18,[zw (zu 8) 8,p [] (zu 5) [9] [9] (some 10),p [11,12] [0] [] [] (some 13),zq])]
def plz81:PL:=[
 (3,[p (zu 14) [] [14,15] [14,15] (some 16),p [] [7,8,9,10,11,12,13] [] [] (some 17),zq])]
def plz82:PL:=[
 (1,[p (zu 14) [] [14,15] [14,15] (some 16),p [] [7,8,9,10,11,12,13] [] [] (some 17),zq])]
def plz87:PL:=[
 (2,[p [1] [] [3] [] (some 0),p [2] [1] [3] [3] (some 4),zq]),
 (3,[p [0,1,3] [] [2] [] (some 4),p [] [0,1] [2,5] [2,5] (some 6),zq])]
def plz91:PL:=[
 (1,[zw (zu 4) 4,p [] [2,3] [] [] (some 5),zq]),
 (6,[zw [0,1,2] 3,p [] [0,1] [4] [4] (some 5),zw [6] 7,zq])]
def plz103:PL:=[
 (1,[zw (zu 9) 9,zx [10,11]])]
def plz104:PL:=[
 (3,[p (zu 6) [] [10] [] (some 6),p [7,8,9] [] [10] [10] (some 11),p [] [9] [] [] (some 12),zq]),
 (4,[p (zu 11) [] [11] [11] (some 12),p [13,14] [0] [] [] (some 15),zq])]
def plz106:PL:=[
 (21,[zw (zu 11) 11,zq]),
 (26,[zw (zu 6) 6,zw [7,8,9,10] 11,zq]),
 (15,[zw (zu 7) 7,zw [8,9,10] 11,p [12] [10] [] [] (some 13),zq]),
 (17,[zw (zu 6++[7]) 6,p [] [0,1,7] [] [] (some 8),zv 9,zq]),
 (27,[p (zu 6) [] [6] [6] (some 7),p [8,9] [0] [] [] (some 10),zq])]
def plz112:PL:=[
 (8,[p [0,1] [] [2,3] [] (some 4),p [] [0,1] [2,3] [2,3] (some 5),zq]),
 (11,[zx (zu 12)])]
def plz114:PL:=[
 (6,[p (zu 7) [] [7,8] [] (some 9),p [] [1,2,3,4,5,6] [7,8] [7,8] (some 10),zq])]
def plz115:PL:=[
 (4,[zw (zu 5) 5,p [] (zu 5) [] [] (some 6),p [7,8] [0] [] [] (some 9),zq]),
 (5,[zw (zu 5) 5,p [] (zu 5) [] [] (some 6),p [7,8] [0] [] [] (some 9),zq])]
def plz140:PL:=[
 (13,[p (zu 8) [] [8] [8] (some 9),p [] [0,1,2] [] [] (some 10),zq]),
 (18,[zw (zu 6) 6,zw [7,8,9] 10,p [] [9] [] [] (some 11),zq])]
def plz142:PL:=[
 (2,[p (zu 12) [] [12] [12] (some 13),zq]),
 (3,[zw (zu 11) 11,p [12,13] [0] [] [] (some 14),zq]),
 (4,[zw (zu 13) 13,zx [14]]),
 (5,[zw (zu 23) 23,zq])]
def plz143:PL:=[
 (1,[zw (zu 9) 9,p [] [8] [] [] (some 10),zq]),
 (3,[zw (zu 10) 10,zq]),
 (4,[p (zu 6) [] [6] [6] (some 7),p [8,9] [0] [] [] (some 10),zq])]
def plz144:PL:=[
 (1,[zw (zu 37) 37,zq])]
def plz150:PL:=[
 (9,[zw (zu 6++[7,8]) 6,p [9] [0,1,2,3,7,8] [10] [10] (some 11),zw [12] 13,zq])]
def plz156:PL:=[
 (6,[p (zu 12) [] [12] [12] (some 13),p [14,15] [0] [] [] (some 16),zq])]
def plz157:PL:=[
 (17,[zw (zu 16) 16,zv 17,zv 18,zq])]
def plz159:PL:=[
 (11,[zw [0,1] 2,p [] [0,1] [] [] (some 3),zq]),
 (17,[zw [0,1] 2,p [] [0,1] [] [] (some 3),zq]),
 (19,[zw [0,1] 2,p [] [0,1] [] [] (some 3),zq])]
def plz164:PL:=[
 (28,[zw [0] 1,zw [2,3,4,5] 6,zw [7,8,9,10,11,12,15,16] 13,p [14,17,18] [15,16] [] [] none]),
 (35,[p (zu 21) [] [21] [21] (some 22),zv 23,zq])]
def plz165:PL:=[
 (15,[zx (zu 11)]),
 (17,[zw (zu 14) 14,zq])]
def plz171:PL:=[
 (15,[p (zu 11) [] [11] [11] (some 12),p [13,14] [0] [] [] (some 15),zq])]
def plz172:PL:=[
 (8,[zw (zu 6) 6,p [] (zu 4) [] [] (some 7),zq])]
def plz173:PL:=[
 (16,[p (zu 7) [] [7] [7] (some 8),zw [9] 10,zq]),
 (17,[p (zu 12) [] [12] [12] (some 13),p [14,15] [0,1,2] [] [] (some 16),zq])]
def plz177:PL:=[
 (10,[zw (zu 5) 5,zv 6,zq]),
 (20,[p (zu 11) [] [11] [11] (some 12),zw [13] 14,zq])]
def plz179:PL:=[
 (4,[zw [1] 0,p [2] [1] [3] [3] (some 4),zq])]
def plz204:PL:=[
 (17,[zw (zu 13) 13,zx [14,15,16]])]
def plz208:PL:=[
 (4,[zw [0,1,2,3,5,6,7,8] 4,p [] [5,6,7,8] [] [] (some 9),zx [10]]),
 (5,[zw (zu 8) 8,zv 9,zq])]
def plz209:PL:=[
 (19,[zw (zu 6) 6,zv 7,zq]),
 (21,[zw (zu 10) 10,p [] (zu 4) [] [] (some 11),zv 12,zq])]
def plz211:PL:=[
 (1,[zw [0,1,2,3,5,6,7,8] 4,p [] [5,6,7,8] [] [] (some 9),p [] [] [10] [10] (some 11),zv 12,zq])]
def plz216:PL:=[
 (19,[zw (zu 10) 10,zx [11]])]
def plz217:PL:=[
 (6,[zw [0,1,2] 3,p [] [0,1] [4] [4] (some 5),zw [6] 7,zq]),
 (11,[zw (zu 6++[7,8]) 6,p [9] [0,1,2,3,7,8] [10] [10] (some 11),zw [12] 13,zq])]
def plz219:PL:=[
 (2,[p (zu 14) [] [14] [14] (some 15),p [16,17] [0] [] [] (some 18),zq]),
 (8,[p (zu 6) [] [10] [] (some 6),p [7,8,9] [] [10] [10] (some 11),p [] [9] [] [] (some 12),zq])]
def plz225:PL:=[
 (5,[zw (zu 6) 6,zq])]
def plz226:PL:=[
 (18,[zw (zu 8) 8,zq])]
def plz229:PL:=[
 (1,[p (zu 10) [] [10] [10] (some 11),zq])]
def plz240:PL:=[
 (8,[zx (zu 11)])]
def plz246:PL:=[
 (8,[zx (zu 49)])]
def plz247:PL:=[
 (6,[p (zu 12) [] [12] [12] (some 13),zv 14,zq]),
 (17,[p (zu 12) [] [12] [12] (some 13),zv 14,zq])]
def plz249:PL:=[
 (5,[p (zu 12) [] [12] [12] (some 13),zv 14,zq])]
def plz250:PL:=[
 (5,[p (zu 12) [] [12] [12] (some 13),zv 14,zq])]
def plz251:PL:=[
 (5,[p (zu 12) [] [12] [12] (some 13),zv 14,zq])]
def plz255:PL:=[
 (6,[zw (zu 10) 10,zw [11,12] 13,zq]),
 (9,[zw [0,1,3,4] 2,p [] [3,4] [] [] (some 5),zv 6,zv 7,zq]),
 (16,[p (zu 8) [] [8] [8] (some 9),zq]),
 (17,[zw (zu 12) 12,zq])]
def plz257:PL:=[
 (2,[p (zu 13) [] [13] [13] (some 14),p [15] (zu 5) [] [] (some 16),zq])]
def plz259:PL:=[
 (10,[p (zu 12) [] [12] [12] (some 13),zv 14,zq]),
 (11,[zw (zu 8) 8,zq])]
def plz261:PL:=[
 (5,[zw (zu 16) 16,p [] (zu 5) [] [] (some 17),p [18,19] [0] [] [] (some 20),zq])]
def plz263:PL:=[
 (8,[zw [0,1,2] 3,zv 4,zq])]
def plz265:PL:=[
 (3,[zw [0,1,2,5,6] 3,p [] [0,5,6] [] [] (some 4),p [7] [5,6] [] [] (some 8),zq]),
 (7,[zw (zu 7++[9,10,11,14,15]) 7,p [] [0,1,2,3,4,9,10,11,14,15] [] [] (some 8),p [] [0,1,2,3,9,10,11,14,15] [] [] (some 12),p [] [0,1,2,3,9,14,15] [] [] (some 13),p [16] [0,1,2,3,14,15] [] [] (some 17),zq]),
 (8,[p [0,1,2,5,6,7,10,11] [] [13] [] (some 3),p [] [0,5,6,7,10,11] [13] [] (some 4),p [] [5,6,7,10,11] [13] [] (some 8),p [] [5,10,11] [13] [] (some 9),p [12] [10,11] [13] [13] (some 14),zq])]
def plz271:PL:=[
 (1,[zw (zu 4) 4,p [] [0,1] [] [] (some 5),zw [6] 7,zq]),
 (2,[zw (zu 4) 4,p [] [0,1] [] [] (some 5),zw [6] 7,zq]),
 (3,[zw (zu 4) 4,p [] [0,1] [] [] (some 5),zw [6] 7,zq]),
 (4,[zw (zu 4) 4,p [] [0,1] [] [] (some 5),zw [6] 7,zq]),
 (5,[zw (zu 4) 4,p [] [0,1] [] [] (some 5),zw [6] 7,zq]),
 (6,[zw (zu 4) 4,p [] [0,1] [] [] (some 5),zw [6] 7,zq]),
 (7,[zw (zu 4) 4,p [] [0,1] [] [] (some 5),zw [6] 7,zq])]
def plz274:PL:=[
 (6,[p (zu 6) [] [8] [] (some 6),p [7] [0,1,2] [8] [8] (some 9),zq]),
 (9,[zw [0,1,2,4] 3,p [5,7] [0,1,2,4] [6] [6] (some 8),zq])]
def plz276:PL:=[
 (7,[zw (zu 8) 8,zq])]
def plz288:PL:=[
 (12,[p (zu 9) [] [12] [] (some 9),p [10,11] (zu 4) [12] [12] (some 13),zq])]
def plz308:PL:=[
 (5,[p (zu 7) [] [7] [7] (some 8),zw [9] 10,zq]),
 (10,[p (zu 9) [] [9] [9] (some 10),zw [11] 12,zq]),
 (11,[p (zu 9) [] [9] [9] (some 10),zw [11] 12,zq])]
def plz309:PL:=[
 (14,[zw (zu 8) 8,zv 9,zq])]
def plz323:PL:=[
 (4,[zw (zu 14) 14,zx [15,16]]),
 (6,[zw (zu 15) 15,p [16] [2,3,4] [] [] (some 17),zq])]
def plz324:PL:=[
 (10,[zw (zu 17) 17,p [18] [2,3,4,5] [] [] (some 19),zq])]
def plz325:PL:=[
 (10,[zw (zu 17) 17,p [18] [2,3,4,5] [] [] (some 19),zq])]
def plz327:PL:=[
 (3,[zw (zu 13) 13,p [14] [2,3] [] [] (some 15),zq])]
def plz328:PL:=[
 (5,[zw (zu 14) 14,zx [15,16,17]]),
 (11,[zw (zu 15) 15,p [16] [2,3,4] [] [] (some 17),zq]),
 (16,[zw (zu 10) 10,zx [11,12]]),
 (17,[zw (zu 15) 15,p [16] [2,3,4] [] [] (some 17),zq]),
 (22,[zw (zu 10) 10,zx [11,12]]),
 (23,[zw (zu 15) 15,p [16] [2,3,4] [] [] (some 17),zq])]
def plz329:PL:=[
 (1,[zw (zu 13) 13,p [14] [2,3] [] [] (some 15),zq]),
 (3,[zw (zu 13) 13,zx [14,15,16]]),
 (5,[zw (zu 13) 13,zx [14,15]]),
 (8,[zw (zu 13) 13,p [14] [2,3] [] [] (some 15),zq])]
def plz330:PL:=[
 (1,[zw (zu 13) 13,p [14] [2,3] [] [] (some 15),zq]),
 (3,[zw (zu 13) 13,zx [14,15]]),
 (5,[zw (zu 13) 13,zx [14,15,16]]),
 (8,[zw (zu 13) 13,p [14] [2,3] [] [] (some 15),zq]),
 (10,[zw (zu 13) 13,p [14] [2,3] [] [] (some 15),zq]),
 (13,[zw (zu 13) 13,zx [14,15]]),
 (15,[zw (zu 13) 13,zx [14,15,16]]),
 (18,[zw (zu 13) 13,p [14] [2,3] [] [] (some 15),zq]),
 (21,[zw (zu 13) 13,p [14] [2,3] [] [] (some 15),zq])]
def plz337:PL:=[
 (1,[zw (zu 5) 5,zq]),
 (2,[p (zu 8) [] [8] [8] (some 9),p [10,11] [0] [] [] (some 12),zq]),
 (3,[p (zu 10) [] [10] [10] (some 11),p [12,13] [0] [] [] (some 14),zq])]
def plz338:PL:=[
 (3,[p (zu 9) [] [13] [] (some 9),p [10,11,12] [] [13] [13] (some 14),p [] [12] [] [] (some 15),zq]),
 (4,[p (zu 14) [] [14] [14] (some 15),p [16,17] [0] [] [] (some 18),zq]),
 (5,[zw (zu 9) 9,zq])]
def plz341:PL:=[
 (17,[zw (zu 13) 13,zx [14,15,16]])]
def plz344:PL:=[
 (7,[p (zu 8) [] [8] [8] (some 9),p [] [0,1,2] [] [] (some 10),zq]),
 (16,[zw (zu 7) 7,zq])]
def plz354:PL:=[
 (5,[zw (zu 5) 5,zv 6,zq]),
 (10,[zw (zu 6) 6,zq])]
def plz357:PL:=[
 (1,[p (zu 10) [] [10] [10] (some 11),zq])]
def plz358:PL:=[
 (1,[p (zu 10) [] [10] [10] (some 11),zq]),
 (2,[zx (zu 11)])]
def plz361:PL:=[
 (10,[p (zu 11) [] [11] [11] (some 12),p [13,14] [0] [] [] (some 15),zq]),
 (13,[p (zu 12) [] [12] [12] (some 13),p [14,15] [0] [] [] (some 16),zq]),
 (19,[p (zu 6) [] [6] [6] (some 7),p [8,9] [0] [] [] (some 10),zq])]
def plz367:PL:=[
 (3,[zw [0,1,3,4] 2,p [] [3,4] [] [] (some 5),zv 6,zv 7,zq]),
 (9,[p (zu 8) [] [8] [8] (some 9),zq]),
 (10,[zw (zu 6++[7]) 6,p [8,9,10,11,12,13,14,15,16,17,18,19,20,21,22,23] [7] [] [] none]),
 (11,[p (zu 12) [] [12] [12] (some 13),zq]),
 (16,[p (zu 8) [] [8] [8] (some 9),zq])]
def plz369:PL:=[
 (5,[p (zu 14) [] [14] [14] (some 15),zv 16,zq]),
 (17,[zw (zu 13) 13,p [] (zu 5) [] [] (some 14),p [15,16] [0] [] [] (some 17),zq])]
def plz378:PL:=[
 (1,[zw (zu 14) 14,zq])]
def plz379:PL:=[
 (5,[zw (zu 6++[8,9]) 6,p [] [0,1,2,3,8,9] [] [] (some 7),p [10] [0,1,2,8,9] [11] [11] (some 12),zv 13,zq])]
def plz381:PL:=[
 (3,[p [0,1,2,3,4,7,8,9,12,13] [] [15] [] (some 5),p [] [0,1,2,7,8,9,12,13] [15] [] (some 6),p [] [0,1,7,8,9,12,13] [15] [] (some 10),p [] [0,1,7,12,13] [15] [] (some 11),p [14] [0,1,12,13] [15] [15] (some 16),zq])]
def plz383:PL:=[
 (5,[p (zu 11) [] [11] [11] (some 12),zq])]
def plz391:PL:=[
 (6,[zw (zu 11) 11,zv 12,zq])]
def plz433:PL:=[
 (3,[zw (zu 19) 19,zx [20,21]]),
 (5,[zw (zu 13) 13,zx [14,15]]),
 (6,[zw (zu 21) 21,p [22] [4,5,6,7] [] [] (some 23),zq])]
def plz435:PL:=[
 (1,[zw (zu 9) 9,zq]),
 (2,[zw (zu 9) 9,zq]),
 (3,[zw (zu 9) 9,zq])]
def plz439:PL:=[
 (7,[zx (zu 11)]),
 (9,[zw (zu 11) 11,zq]),
 (10,[zw (zu 11) 11,zq])]
def plz440:PL:=[
 (12,[zw (zu 7) 7,zw [8,9,10] 11,p [12] [10] [] [] (some 13),zq]),
 (15,[zw (zu 7) 7,zv 8,zq]),
 (21,[zw (zu 6) 6,zw [7,8,9,10] 11,zq]),
 (22,[zw (zu 6) 6,zv 7,zq]),
 (26,[p (zu 6) [] [6] [6] (some 7),p [8,9] [0] [] [] (some 10),zq])]
def plz441:PL:=[
 (4,[zw (zu 14) 14,zx [15,16]]),
 (6,[zw (zu 15) 15,p [16] [2,3,4] [] [] (some 17),zq])]
def plz442:PL:=[
 (10,[zw (zu 17) 17,p [18] [2,3,4,5] [] [] (some 19),zq])]
def plz443:PL:=[
 (10,[zw (zu 17) 17,p [18] [2,3,4,5] [] [] (some 19),zq])]
def plz445:PL:=[
 (3,[zw (zu 13) 13,p [14] [2,3] [] [] (some 15),zq])]
def plz446:PL:=[
 (5,[zw (zu 14) 14,zx [15,16,17]]),
 (11,[zw (zu 15) 15,p [16] [2,3,4] [] [] (some 17),zq]),
 (16,[zw (zu 10) 10,zx [11,12]]),
 (17,[zw (zu 15) 15,p [16] [2,3,4] [] [] (some 17),zq]),
 (22,[zw (zu 10) 10,zx [11,12]]),
 (23,[zw (zu 15) 15,p [16] [2,3,4] [] [] (some 17),zq])]
def plz447:PL:=[
 (1,[zw (zu 13) 13,p [14] [2,3] [] [] (some 15),zq]),
 (3,[zw (zu 13) 13,zx [14,15,16]]),
 (5,[zw (zu 13) 13,zx [14,15]]),
 (8,[zw (zu 13) 13,p [14] [2,3] [] [] (some 15),zq])]
def plz448:PL:=[
 (1,[zw (zu 13) 13,p [14] [2,3] [] [] (some 15),zq]),
 (3,[zw (zu 13) 13,zx [14,15]]),
 (5,[zw (zu 13) 13,zx [14,15,16]]),
 (8,[zw (zu 13) 13,p [14] [2,3] [] [] (some 15),zq]),
 (10,[zw (zu 13) 13,p [14] [2,3] [] [] (some 15),zq]),
 (13,[zw (zu 13) 13,zx [14,15]]),
 (15,[zw (zu 13) 13,zx [14,15,16]]),
 (18,[zw (zu 13) 13,p [14] [2,3] [] [] (some 15),zq]),
 (21,[zw (zu 13) 13,p [14] [2,3] [] [] (some 15),zq])]
def plz450:PL:=[
 (1,[zw (zu 10) 10,zq])]
def plz451:PL:=[
 (2,[zw (zu 10) 10,zq])]
def plz453:PL:=[
 (6,[zx (zu 9)])]
def plz462:PL:=[
 (5,[zx (zu 9)])]
def plz465:PL:=[
 (4,[zw [0,1,2,3,4,6] 5,p [] [3,6] [] [] (some 7),p [] [3] [] [] (some 8),zw [9] 10,zq]),
 (6,[zw [0,1,3] 2,p [] [0,3] [] [] (some 4),zv 5,zq]),
 (8,[zw [0,1,2,3,4,6] 5,p [] [3,6] [] [] (some 7),p [] [3] [] [] (some 8),zw [9] 10,zq])]
def plz468:PL:=[
 (7,[zw (zu 6++[7,8,9,10,12,13]) 6,p [] [0,1,7,8,9,10,12,13] [] [] (some 11),p [14] [0,1,12,13] [] [] (some 15),zq]),
 (8,[zw (zu 11) 11,zq]),
 (10,[zw (zu 6++[7,8]) 6,p [9] [0,1,7,8] [] [] (some 10),zq]),
 (11,[zw [0,1,2,3,5,6,7,8,10,11] 4,p [] [5,6,7,8,10,11] [] [] (some 9),p [12] [10,11] [] [] (some 13),zq]),
 (12,[p [0,1,2,3,4,7,8,9,12,13] [] [15] [] (some 5),p [] [0,1,2,7,8,9,12,13] [15] [] (some 6),p [] [0,1,7,8,9,12,13] [15] [] (some 10),p [] [0,1,7,12,13] [15] [] (some 11),p [14] [0,1,12,13] [15] [15] (some 16),zq])]
def plz472:PL:=[
 (13,[p (zu 16) [] [16] [16] (some 17),zw [18] 19,zq])]
def plz474:PL:=[
 (15,[p (zu 8) [] [8] [8] (some 9),zv 10,zq]),
 (21,[zw (zu 7) 7,zw [8,9,10] 11,p [] [10] [] [] none]),
 (22,[p (zu 9) [] [9] [9] (some 10),zv 11,zq])]
def plz482:PL:=[
 (4,[zw (zu 11) 11,zq]),
 (6,[zw (zu 11) 11,zq]),
 (8,[zw (zu 11) 11,zq]),
 (10,[zw (zu 11) 11,zq])]
def plz483:PL:=[
 (4,[zw (zu 8) 8,zv 9,zq])]
def plz490:PL:=[
 (1,[zw (zu 10) 10,zq])]
def plz501:PL:=[
 (4,[zw (zu 6) 6,p [7] (zu 4) [] [] (some 8),zv 9,zq])]
def plz505:PL:=[
 (1,[zw (zu 9) 9,zx [10]])]
def plz507:PL:=[
 (1,[zw (zu 5) 5,zv 6,zq]),
 (8,[p (zu 6) [] [6] [6] (some 7),p [8,9] [0] [] [] (some 10),zq]),
 (17,[zw (zu 6) 6,zv 7,zq]),
 (28,[zw (zu 26) 26,zq]),
 (29,[zw (zu 9) 9,zq])]
def plz508:PL:=[
 (3,[zw (zu 19) 19,zx [20,21]]),
 (5,[zw (zu 13) 13,zx [14,15]]),
 (6,[zw (zu 21) 21,p [22] [4,5,6,7] [] [] (some 23),zq])]
def plz517:PL:=[
 (11,[zw (zu 9++[13]) 9,p [10,11,12] [0,1,2,3,13] [] [] (some 14),zv 15,zq])]
def plz518:PL:=[
 (2,[zw [0,1,2,3,4,7,8] 5,p [] [0,1,2,7,8] [] [] (some 6),p [9] [0,1,7,8] [] [] (some 10),zq])]
def plz519:PL:=[
 (14,[p (zu 6) [] [6] [6] (some 7),⟨[8,10,11],[],[],[],(some 9),some (12,[11,10],[8])⟩]),
 (23,[p (zu 11) [] [11] [11] (some 12),⟨[13,15,16],[],[],[],(some 14),some (17,[16,15],[13])⟩])]
def plz520:PL:=[
 (10,[zx (zu 13)])]
def plz523:PL:=[
 (24,[zx (zu 14)])]
def plz524:PL:=[
 (5,[p (zu 7) [] [11] [] (some 7),p [8,9,10] [] [11] [11] (some 12),p [] [10] [] [] (some 13),zq]),
 (12,[zw (zu 9++[10]) 9,p [11,12,13,14,15,16,17,18,19,20,21,22,23,24,25,26,27,28,29] [10] [] [] (some 30),zx [31,32]])]
def plz527:PL:=[
 (12,[p (zu 9) [] [12] [] (some 9),p [10,11] (zu 4) [12] [12] (some 13),zq])]
def plz539:PL:=[
 (1,[zw (zu 9) 9,zx [10]])]
def plz546:PL:=[
 (4,[zw (zu 9) 9,p [] [5,6,7,8] [] [] (some 10),zq])]
def plz548:PL:=[
 (32,[zw (zu 6) 6,p [] [1,2,3,4,5] [] [] (some 7),p [] [3,4,5] [] [] (some 8),zq])]
def plz571:PL:=[
 (8,[zx (zu 9)]),
 (10,[zx (zu 9)])]
def FF:List (Nat×List (Nat×List Ph)):=[
 (10,plz10),(11,plz11),(34,plz34),(43,plz43),(44,plz44),(45,plz45),(48,plz48),(50,plz50),(70,plz70),(71,plz71),(76,plz76),(81,plz81),(82,plz82),(87,plz87),(91,plz91),(103,plz103),(104,plz104),(106,plz106),(112,plz112),(114,plz114),(115,plz115),(140,plz140),(142,plz142),(143,plz143),(144,plz144),(150,plz150),(156,plz156),(157,plz157),(159,plz159),(164,plz164),
 (165,plz165),(171,plz171),(172,plz172),(173,plz173),(177,plz177),(179,plz179),(204,plz204),(208,plz208),(209,plz209),(211,plz211),(216,plz216),(217,plz217),(219,plz219),(225,plz225),(226,plz226),(229,plz229),(240,plz240),(246,plz246),(247,plz247),(249,plz249),(250,plz250),(251,plz251),(255,plz255),(257,plz257),(259,plz259),(261,plz261),(263,plz263),(265,plz265),(271,plz271),(274,plz274),
 (276,plz276),(288,plz288),(308,plz308),(309,plz309),(323,plz323),(324,plz324),(325,plz325),(327,plz327),(328,plz328),(329,plz329),(330,plz330),(337,plz337),(338,plz338),(341,plz341),(344,plz344),(354,plz354),(357,plz357),(358,plz358),(361,plz361),(367,plz367),(369,plz369),(378,plz378),(379,plz379),(381,plz381),(383,plz383),(391,plz391),(433,plz433),(435,plz435),(439,plz439),(440,plz440),
 (441,plz441),(442,plz442),(443,plz443),(445,plz445),(446,plz446),(447,plz447),(448,plz448),(450,plz450),(451,plz451),(453,plz453),(462,plz462),(465,plz465),(468,plz468),(472,plz472),(474,plz474),(482,plz482),(483,plz483),(490,plz490),(501,plz501),(505,plz505),(507,plz507),(508,plz508),(517,plz517),(518,plz518),(519,plz519),(520,plz520),(523,plz523),(524,plz524),(527,plz527),(539,plz539),
 (546,plz546),(548,plz548),(571,plz571)]
def Pl (f id:Nat):List Ph:=fp [] id (fp [] f FF)
end
end Go.aK
namespace Go.aK
noncomputable def z (n:Nat):Pz:=bj n
theorem wm {α β:Type}{f:Nat}{x:α}:∀{rows:List (Nat×List α)},x∈fp [] f rows->∃r∈rows,r.1=f/\x∈r.2
 | [],h=>by cases h
 |r::rows,h=>by
  have h:x∈(Bool.rec (motive:=fun _=>List α) (fp [] f rows) r.2 (Nat.beq r.1 f):List α):=h;cases hb:Nat.beq r.1 f with
  |true=>rw[hb]at h;exact⟨r,zac ..,aj hb,h⟩
  |false =>
   rw[hb]at h;obtain⟨r',h1,h2⟩:=wm (β:=β) h;exact⟨r',zaa _ h1,h2⟩
variable {P:Program}
theorem cr {f:Nat}:∀m∈([]:List cC),m.Ok P f:=fun m h=>by simp at h
theorem bE {f:Nat}{m:cC}{ms:List cC}{aU:List Pz}(h:m.Ok P f)(hs:∀m∈ms,cC.Ok P f m):∀m'∈{ m with aU:=aU }::ms,cC.Ok P f m':=fun m' hm=>by
 rcases List.mem_cons.1 hm with rfl|hm
 ·exact h
 ·exact hs m' hm
theorem cH:∀r∈([]:List (Nat×List cC)),∀m∈r.2,cC.Ok P r.1 m:=fun r h=>by simp at h
theorem ct {f:Nat}{ms:List cC}{rows:List (Nat×List cC)}(h:∀m∈ms,cC.Ok P f m)(hs:∀r∈rows,∀m∈r.2,cC.Ok P r.1 m):∀r∈(f,ms)::rows,∀m∈r.2,cC.Ok P r.1 m:=fun r hr=>by
 rcases List.mem_cons.1 hr with rfl|hr
 ·exact h
 ·exact hs r hr
theorem cm {rows:List (Nat×List cC)}(h:∀r∈rows,∀m∈r.2,cC.Ok P r.1 m):∀f m,m∈fp [] f rows->cC.Ok P f m:=fun f m hm=>by
 obtain⟨r,h1,rfl,h2⟩:=wm (β:=Nat) hm;exact h r h1 m h2
noncomputable def okB (r:Rs):Bool:=Rs.rec (motive:=fun _=>Bool) true (fun _=>false) r
theorem dG {r:Rs}(h:okB r=true):r=.ok:=by
 cases r with
 |ok=>rfl
 |bad n=>cases h
theorem ej {call:bH}(hcall:oY P call){f:Nat}{args:List AV}{pre post:Tr AO}{nx nx':Pz}{v:AV}(h:okB (call.run f args pre nx (Ti v post nx'))=true):Th P f args pre nx v post nx':=PO hcall (dG h)
end Go.aK
namespace Go.aK
open Go.RowKit
variable {P:Program}
noncomputable def PR (hp:Tr AO)(f id:Pz):Tr AO:=match hp.get f,hp.get id with
 |some (.cO 0 _),some (.bX g 0 tp es n el c)=>bif Nat.beq (iy g) (iy f)then (hp.set f (.cO 1 true)).set id (.bX g 1 tp es n el c)else hp
 |_,_=>hp
theorem PS {hp:Tr AO}{f id:Pz}:PR hp f id=hp∨∃s tp es n el c,hp.get f=some (.cO 0 s)/\hp.get id=some (.bX f 0 tp es n el c)/\PR hp f id=(hp.set f (.cO 1 true)).set id (.bX f 1 tp es n el c):=by
 unfold PR;split
 ·rename_i s g tp es n el c h1 h2;cases hb:Nat.beq (iy g) (iy f)with
  |false=>exact .inl rfl
  |true =>
   have e:=zab hb;rw[iU,iU]at e;obtain rfl:=Pz.Dm e;exact .inr ⟨s,tp,es,n,el,c,h1,h2,rfl⟩
 ·exact .inl rfl
section
variable {hp hp1:Tr AO}{f id:Pz}{s tp:Bool}{es n:Nat}{el:TypeId}{c:Tr (List AV)}
theorem jF (h1:hp.get f=some (.cO 0 s))(h2:hp.get id=some (.bX f 0 tp es n el c))(q:Pz){o:AO}(h:((hp.set f (.cO 1 true)).set id (.bX f 1 tp es n el c)).get q=some o) :
  (q=id/\o=.bX f 1 tp es n el c)∨(q=f/\q≠id/\o=.cO 1 true)∨(q≠id/\q≠f/\hp.get q=some o):=by
 rcases ah h with ⟨e,e2⟩|⟨hq,h⟩
 ·exact .inl ⟨e,e2.symm⟩
 ·rcases ah h with ⟨e,e2⟩|⟨hq2,h⟩
  ·exact .inr (.inl ⟨e,hq,e2.symm⟩)
  ·exact .inr (.inr ⟨hq,hq2,h⟩)
theorem s9 (hw:∀q g ep tp es n el c e s,hp.get q=some (.bX g ep tp es n el c)->hp.get g=some (.cO e s)->ep<=e)(h1:hp.get f=some (.cO 0 s))(h2:hp.get id=some (.bX f 0 tp es n el c)){q g:Pz}{ep:Nat}{tp':Bool}{es' n':Nat}{el':TypeId}{c':Tr (List AV)}(hq:hp.get q=some (.bX g ep tp' es' n' el' c'))
  (hl:live ((hp.set f (.cO 1 true)).set id (.bX f 1 tp es n el c)) g ep):g≠f/\live hp g ep:=by
 obtain⟨so,hg⟩:=hl;rcases jF h1 h2 g hg with ⟨_,e⟩|⟨e1,_,e⟩|⟨_,e1,e⟩
 ·cases e
 ·cases e;subst e1;have:=hw _ _ _ _ _ _ _ _ _ _ hq h1;omega
 ·exact⟨e1,so,e⟩
theorem Ks {B:Nat->Prop}{w0 w:World}{ι:En}{nx:Pz}(hw:Wf hp nx)(h1:hp.get f=some (.cO 0 s))(h2:hp.get id=some (.bX f 0 tp es n el c))(h:Core B w0 ι hp w):Core B w0 ι ((hp.set f (.cO 1 true)).set id (.bX f 1 tp es n el c)) w:=by
 have lv:live hp f 0:=⟨s,h1⟩
 have ow:∀{q:Pz} {o:AO},((hp.set f (.cO 1 true)).set id (.bX f 1 tp es n el c)).get q=some o->own ((hp.set f (.cO 1 true)).set id (.bX f 1 tp es n el c)) o->∃o',hp.get q=some o'/\own hp o'/\gR o'=gR o:=by
  intro q o hq ho;rcases jF h1 h2 q hq with ⟨e1,e⟩|⟨_,_,e⟩|⟨_,_,e⟩
  ·subst e1 e;exact⟨_,h2,lv,rfl⟩
  ·subst e;exact ho.elim
  ·refine⟨o,e,?_,rfl⟩;cases o with
   |bX g ep tp' es' n' el' c'=>exact (s9 hw.ep h1 h2 e ho).2
   |_=>exact ho
 have sg:∀{q g:Pz} {ep:Nat} {tp':Bool} {es' n':Nat} {el':TypeId} {c':Tr (List AV)},((hp.set f (.cO 1 true)).set id (.bX f 1 tp es n el c)).get q=some (.bX g ep tp' es' n' el' c')->live ((hp.set f (.cO 1 true)).set id (.bX f 1 tp es n el c)) g ep->∃ep',hp.get q=some (.bX g ep' tp' es' n' el' c')/\live hp g ep':=by
  intro q g ep tp' es' n' el' c' hq hl;rcases jF h1 h2 q hq with ⟨e1,e⟩|⟨_,_,e⟩|⟨_,_,e⟩
  ·cases e;subst e1;exact⟨0,h2,lv⟩
  ·cases e
  ·exact⟨ep,e,(s9 hw.ep h1 h2 e hl).2⟩
 refine⟨h.below,h.room,fun q o hq=>?_,fun q o hq ho=>?_,fun q q' o o' hne hq hq' ho ho' hb=>?_,fun q q' g ep es1 n1 el1 c1 g' ep' tp' es' n' el' c' hne hq hq' hl hl'=>?_⟩
 ·rcases jF h1 h2 q hq with ⟨e1,e⟩|⟨_,_,e⟩|⟨_,_,e⟩
  ·subst e1 e;exact fun _=>h.obj _ _ h2 lv
  ·subst e;trivial
  ·have:=h.obj q o e;cases o with
   |bX g ep tp' es' n' el' c'=>exact fun hl=>this (s9 hw.ep h1 h2 e hl).2
   |_=>exact this
 ·obtain⟨o',k1,k2,_⟩:=ow hq ho;exact h.base q o' k1 k2
 ·obtain⟨x,k1,k2,k3⟩:=ow hq ho;obtain⟨x',k4,k5,k6⟩:=ow hq' ho';obtain⟨g,e1,e2⟩:=h.sep q q' x x' hne k1 k4 k2 k5 hb;exact⟨g,k3▸e1,k6▸e2⟩
 ·obtain⟨e1,k1,k2⟩:=sg hq hl;obtain⟨e2,k3,k4⟩:=sg hq' hl';exact h.eZ q q' _ _ _ _ _ _ _ _ _ _ _ _ _ hne k1 k3 k2 k4
theorem Tj {nx:Pz}(hw:Wf hp nx)(h1:hp.get f=some (.cO 0 s))(h2:hp.get id=some (.bX f 0 tp es n el c)):Wf ((hp.set f (.cO 1 true)).set id (.bX f 1 tp es n el c)) nx:=by
 refine⟨fun q o hq=>?_,fun q g ep tp' es' n' el' c' hq=>?_,fun q g ep tp' es' n' el' c' e so hq hg=>?_,fun g e q q' tp1 es1 n1 el1 c1 tp' es' n' el' c' hg hq hq'=>?_⟩
 ·rcases jF h1 h2 q hq with ⟨e1,_⟩|⟨e1,_,_⟩|⟨_,_,e⟩
  ·subst e1;exact hw.lt _ _ h2
  ·subst e1;exact hw.lt _ _ h1
  ·exact hw.lt _ _ e
 ·rcases jF h1 h2 q hq with ⟨_,e⟩|⟨_,_,e⟩|⟨_,_,e⟩
  ·cases e;exact hw.cO _ _ _ _ _ _ _ _ h2
  ·cases e
  ·exact hw.cO _ _ _ _ _ _ _ _ e
 ·rcases jF h1 h2 q hq with ⟨_,e1⟩|⟨_,_,e1⟩|⟨_,_,e1⟩
  ·cases e1;rcases jF h1 h2 _ hg with ⟨_,e2⟩|⟨_,_,e2⟩|⟨_,e2,_⟩
   ·cases e2
   ·cases e2;exact zad _
   ·exact (e2 rfl).elim
  ·cases e1
  ·rcases jF h1 h2 _ hg with ⟨_,e2⟩|⟨e3,_,e2⟩|⟨_,_,e2⟩
   ·cases e2
   ·cases e2;subst e3;have:=hw.ep _ _ _ _ _ _ _ _ _ _ e1 h1;omega
   ·exact hw.ep _ _ _ _ _ _ _ _ _ _ e1 e2
 ·have key:∀{q:Pz} {tp1:Bool} {es1 n1:Nat} {el1:TypeId} {c1:Tr (List AV)},((hp.set f (.cO 1 true)).set id (.bX f 1 tp es n el c)).get q=some (.bX g e tp1 es1 n1 el1 c1)->(g=f/\q=id)∨(g≠f/\hp.get q=some (.bX g e tp1 es1 n1 el1 c1)):=by
    intro q tp1 es1 n1 el1 c1 hq;rcases jF h1 h2 q hq with ⟨e1,e2⟩|⟨_,_,e2⟩|⟨_,_,e2⟩
    ·cases e2;exact .inl ⟨rfl,e1⟩
    ·cases e2
    ·refine .inr ⟨(s9 hw.ep h1 h2 e2 ⟨true,hg⟩).1,e2⟩
  rcases key hq with ⟨e1,e2⟩|⟨e1,e2⟩
  ·rcases key hq' with ⟨_,e3⟩|⟨e3,_⟩
   ·exact e2.trans e3.symm
   ·exact (e3 e1).elim
  ·rcases key hq' with ⟨e3,_⟩|⟨_,e3⟩
   ·exact (e1 e3).elim
   ·rcases jF h1 h2 _ hg with ⟨_,e4⟩|⟨e4,_,_⟩|⟨_,_,e4⟩
    ·cases e4
    ·exact (e1 e4).elim
    ·exact hw.iw _ _ _ _ _ _ _ _ _ _ _ _ _ _ e4 e2 e3
end
noncomputable def Wx (f id:Pz)(v:AV)(post:Tr AO)(nx':Pz)(v':AV)(hp':Tr AO)(nx2:Pz):Rs :=
 bM (rT v v') (bM (Nat.ble (iy nx2) (iy nx')) (bM (pT post (PR hp' f id)) .ok (.bad 242)) (.bad 241)) (.bad 240)
theorem xM {call:bH}(hcall:oY P call)(fa id:Pz){f:Nat}{args:List AV}{pre post:Tr AO}{nx nx':Pz}{v:AV}(h:okB (call.run f args pre nx (Wx fa id v post nx'))=true):Th P f args pre nx v post nx':=by
 intro B w0 w ι cargs hw hc;refine hcall.1 f args pre nx _ (dG h) B w0 w ι cargs hw hc _ (fun v' hp' nx2 ι2 cv w' hk hw' hle ha hcc=>?_);obtain⟨h1,hk⟩:=aJ hk;obtain⟨h2,hk⟩:=aJ hk;obtain⟨h3,hk⟩:=aJ hk;have h1:=nz _ _ h1;have h2:=aN h2;rw[iU,iU]at h2;have h3:Part post (PR hp' fa id):=j3 _ _ h3;subst h1
 have hu:Wf (PR hp' fa id) nx2/\∀ι',Core B w0 ι' hp' w'->Core B w0 ι' (PR hp' fa id) w':=by
  rcases PS (hp:=hp') (f:=fa) (id:=id)with e|⟨s,tp,es,n,el,c,k1,k2,e⟩
  ·rw[e];exact⟨hw',fun _ h=>h⟩
  ·rw[e];exact⟨Tj hw' k1 k2,fun ι' h=>Ks hw' k1 k2 h⟩
 exact⟨ι2,s8 h3 h2 hu.1,zay hle h2,ha,fun ι' hι=>⟨kZ h3 (hu.2 _ (hcc ι' (hι.le h2)).1),(hcc ι' (hι.le h2)).2⟩⟩
end Go.aK
namespace Go.aK
open Go.RowKit
section
variable {P:Program}
theorem xN {o:AO}{ι:En}{hp:Tr AO}{w:World}{id:Pz}(h:own hp o)(ho:jk ι hp w id o):ι.aY id<w.heap.size:=by
 cases o with
 |arr =>
  obtain⟨C,fz,h1,_⟩:=ho;exact (Array.getElem?_eq_some_iff.1 h1).1
 |bX =>
  obtain⟨C,fz,h1,_⟩:=ho h;exact (Array.getElem?_eq_some_iff.1 h1).1
 |cO=>exact h.elim
 |map =>
  obtain⟨E,h1,_⟩:=ho;exact (Array.getElem?_eq_some_iff.1 h1).1
 |iter=>exact (Array.getElem?_eq_some_iff.1 ho.1).1
 |loop =>
  obtain⟨fn,tmps,D,h1,_⟩:=ho;exact (Array.getElem?_eq_some_iff.1 h1).1
 |gv=>exact (Array.getElem?_eq_some_iff.1 ho).1
 |gone =>
  have ho:(w.heap[ι.aY id]?).isSome=true:=ho;cases hb:w.heap[ι.aY id]? with
  |none=>rw[hb]at ho;cases ho
  |some x=>exact (Array.getElem?_eq_some_iff.1 hb).1
end
end Go.aK

namespace Go.aK
open Go.RowKit
inductive BK where|raw|data|loc
inductive Gh where
  |cells (k:BK) (el:TypeId) (size:Nat) (C:List AV)
  |map (es:List (AV×AV))
  |iter (m:Option Nat) (n:Nat) (seen:List Nat)
 abbrev GH:=Nat->Option Gh
def nf (v:AV):Prop:=∀ι ι':En,ak ι v=ak ι' v
def nW (l:List AV):Prop:=∀v∈l,nf v
theorem lV (k:IntKind)(n:Int):nf (.int k n):=fun _ _=>by simp[ak]
theorem jr (b:Bool):nf (.bool b):=fun _ _=>by simp[ak]
theorem jG (l n:Nat):nf (.str l n):=fun _ _=>by simp[ak]
theorem qv (k:FloatKind)(n:Nat):nf (.float k n):=fun _ _=>by simp[ak]
theorem nX:nf .c7:=fun _ _=>by simp[ak]
theorem lW:nf .ab:=fun _ _=>by simp[ak]
theorem nY:nf .bg:=fun _ _=>by simp[ak]
theorem Cb:nf .cJ:=fun _ _=>by simp[ak]
theorem jf (b o l c:Nat):nf (.dx b o l c):=fun _ _=>by simp[ak]
theorem lX (b o:Nat):nf (.bZ b o):=fun _ _=>by simp[ak]
theorem xO (b:Nat):nf (.cV b):=fun _ _=>by simp[ak]
theorem qw {l:List AV}(h:nW l)(ι ι':En):aq ι l=aq ι' l:=by
 rw[jo,jo];exact zav fun v hv=>h v hv ι ι'
theorem xP {l:List AV}(h:nW l):nf (.agg l):=fun ι ι'=>by simp only[ak];rw[qw h ι ι']
theorem uq {l:List AV}(h:nW l):nf (.cN l):=fun ι ι'=>by simp only[ak];rw[qw h ι ι']
theorem ur:nf aG:=uq (fun v h=>by simp at h)
theorem gG:nW []:=fun v h=>by simp at h
theorem eT {v:AV}{l:List AV}(h:nf v)(hl:nW l):nW (v::l):=fun x hx=>by
 rcases List.mem_cons.1 hx with rfl|hx
 ·exact h
 ·exact hl x hx
theorem iE {a b:List AV}(ha:nW a)(hb:nW b):nW (a++b):=fun x hx=>by
 rcases List.mem_append.1 hx with hx|hx
 ·exact ha x hx
 ·exact hb x hx
theorem Ap {l:List AV}(n:Nat)(h:nW l):nW (l.take n):=fun x hx=>h x (zds hx)
theorem Aq {l:List AV}(n:Nat)(h:nW l):nW (l.drop n):=fun x hx=>h x (List.mem_of_mem_drop hx)
def pj (B:Nat->Prop)(w:World)(b:Nat):Gh->Prop
 |.cells kd el size C=>nW C/\∃A fz,w.heap[b]?=some (.cells A el fz)/\A.size=size/\C.length<=size/\(∀i,i<C.length->(kd=.raw->C[i]?≠some aG)->∀ι,A[i]?=(C[i]?).map (ak ι))/\(kd≠.raw->¬B b/\fR fz A.size)
 |.map es=>¬B b/\∃(E:Array MapEntry) (clock:Nat),w.heap[b]?=some (.map E clock)/\(∀e∈es,nf e.1/\nf e.2)/\(∀ι,E.toList.map (fun e=>(e.key,e.val))=es.map fun e=>(ak ι e.1,ak ι e.2))/\E.toList.map (fun e=>e.born)=List.range es.length/\clock=es.length
 |.iter m n seen=>¬B b/\w.heap[b]?=some (.mapIter m n seen.toArray n)
def MY (B:Nat->Prop)(G:GH)(w:World):Prop:=∀b g,G b=some g->pj B w b g
def dX (n0:Nat)(B:Nat->Prop)(w0:World)(nt:Nat)(tm:Tm)(hp:Tr AO)(nx:Pz)(G:GH)(ι:En)(a:Act)(w:World):Prop :=
 Sat B w0 nt tm hp nx ι a w/\MY B G w/\(∀id o,hp.get id=some o->own hp o->G (ι.aY id)=none)/\n0<=w.heap.size/\∀b,b<n0->G b=none->B b
theorem pj.lt {B:Nat->Prop}{w:World}{b:Nat}{g:Gh}(h:pj B w b g):b<w.heap.size:=by
 cases g with
 |cells wr el size C=>obtain⟨_,A,fz,h1,_⟩:=h;exact (Array.getElem?_eq_some_iff.1 h1).1
 |map es=>obtain⟨_,E,clock,h1,_⟩:=h;exact (Array.getElem?_eq_some_iff.1 h1).1
 |iter m n seen=>exact (Array.getElem?_eq_some_iff.1 h.2).1
theorem pj.aU {B B':Nat->Prop}{w w':World}{b:Nat}{g:Gh}(h:pj B w b g)(he:w'.heap[b]?=w.heap[b]?)(hB:B' b->B b):pj B' w' b g:=by
 cases g with
 |cells wr el size C =>
  obtain⟨h0,A,fz,h1,h2,h3,h4,h5⟩:=h;exact⟨h0,A,fz,by rw[he];exact h1,h2,h3,h4,fun hw=>⟨fun hb=>(h5 hw).1 (hB hb),(h5 hw).2⟩⟩
 |map es =>
  obtain⟨h0,E,clock,h1,h2⟩:=h;exact⟨fun hb=>h0 (hB hb),E,clock,by rw[he];exact h1,h2⟩
 |iter m n seen=>exact⟨fun hb=>h.1 (hB hb),by rw[he];exact h.2⟩
def BG (B:Nat->Prop)(G:GH)(b:Nat):Prop:=B b∨(G b).isSome=true
theorem Ku {B:Nat->Prop}{G:GH}{w w':World}(hg:MY B G w)(hk:Kept (BG B G) w w'):MY B G w':=fun b g hb =>
 (hg b g hb).aU (hk.block b (.inr (by rw[hb];rfl))) (fun h=>h)
section
variable {P:Program}{n0 nt:Nat}{tm T:Tm}{hp H:Tr AO}{nx X:Pz}{G G':GH}{B:Nat->Prop}{w0 w w':World}{ι ι2:En}{a a':Act}
def Cc (n0:Nat)(B:Nat->Prop)(w0:World)(nt:Nat)(K:Ex->Tm->Tr AO->Pz->GH->Prop)(Q:Exit->Act->World->Prop):Prop :=
 ∀e tm' hp' nx' G' ι2 a' w',K e tm' hp' nx' G'->dX n0 B w0 nt tm' hp' nx' G' ι2 a' w'->Q (Te e) a' w'
def fq (P:Program)(n0 nt:Nat)(c:Code)(tm:Tm)(hp:Tr AO)(nx:Pz)(G:GH)(K:Ex->Tm->Tr AO->Pz->GH->Prop):Prop :=
 ∀(B:Nat->Prop) (w0 w:World) (ι:En) (a:Act),dX n0 B w0 nt tm hp nx G ι a w->∀(Q:Exit->Act->World->Prop),Cc n0 B w0 nt K Q->c.wpIn (fw none) 0 P Q a w
def lb (P:Program)(n0 nt:Nat)(ops:Array Oper)(i m:Nat)(tm:Tm)(hp:Tr AO)(nx:Pz)(G:GH)(K:Ex->Tm->Tr AO->Pz->GH->Prop):Prop :=
 ∀(B:Nat->Prop) (w0 w:World) (ι:En) (a:Act),dX n0 B w0 nt tm hp nx G ι a w->∀(Q:Exit->Act->World->Prop),Cc n0 B w0 nt K Q->wpOpsIn (fw none) 0 P ops Q (List.range' i m) a w
def lY (P:Program)(n0 nt:Nat)(c:Code)(m:Nat)(tm:Tm)(hp:Tr AO)(nx:Pz)(G:GH)(K:Ex->Tm->Tr AO->Pz->GH->Prop):Prop :=
 ∀(B:Nat->Prop) (w0 w:World) (ι:En) (a:Act),dX n0 B w0 nt tm hp nx G ι a w->∀(Q:Exit->Act->World->Prop),Cc n0 B w0 nt K Q->Code.roundsIn (fw none) 0 P c Q m a w
noncomputable def Tk (x:Tm->Tr AO->Pz->GH->Prop)(K:Ex->Tm->Tr AO->Pz->GH->Prop)(e:Ex):Tm->Tr AO->Pz->GH->Prop :=
 Ex.rec (motive:=fun _=>Tm->Tr AO->Pz->GH->Prop) x (fun j=>K (.ext j)) (K .ret) e
noncomputable def Wy (id:Nat)(K:Ex->Tm->Tr AO->Pz->GH->Prop)(e:Ex):Tm->Tr AO->Pz->GH->Prop :=
 Ex.rec (motive:=fun _=>Tm->Tr AO->Pz->GH->Prop) (K .gE) (fun j=>K (if j=id then .gE else .ext j)) (K .ret) e
variable {c x y:Code}{K:Ex->Tm->Tr AO->Pz->GH->Prop}{ops:Array Oper}{i m:Nat}{call:bH}
theorem FG (h:fq P n0 nt x tm hp nx G (Tk (fun tm hp nx G=>fq P n0 nt y tm hp nx G K) K)):fq P n0 nt (.seq x y) tm hp nx G K:=by
 intro B w0 w ι a hs Q hn;refine wpIn_seq (h B w0 w ι a hs _ fun e tm' hp' nx' G' ι2 a' w' hk hs'=>?_);cases e with
 |gE=>exact hk B w0 w' ι2 a' hs' _ hn
 |ext id=>exact hn (.ext id) tm' hp' nx' G' ι2 a' w' hk hs'
 |ret=>exact hn .ret tm' hp' nx' G' ι2 a' w' hk hs'
theorem sn {id:Nat}(h:fq P n0 nt x tm hp nx G (Wy id K)):fq P n0 nt (.block id x) tm hp nx G K:=by
 intro B w0 w ι a hs Q hn;refine wpIn_block (h B w0 w ι a hs _ fun e tm' hp' nx' G' ι2 a' w' hk hs'=>?_);cases e with
 |gE=>exact hn .gE tm' hp' nx' G' ι2 a' w' hk hs'
 |ext j =>
  show if j=id then Q .normal a' w' else Q (.exit j) a' w'
  have hk:K (if j=id then .gE else .ext j) tm' hp' nx' G':=hk;split at hk
  ·rename_i hj;rw[if_pos hj];exact hn .gE tm' hp' nx' G' ι2 a' w' hk hs'
  ·rename_i hj;rw[if_neg hj];exact hn (.ext j) tm' hp' nx' G' ι2 a' w' hk hs'
 |ret=>exact hn .ret tm' hp' nx' G' ι2 a' w' hk hs'
theorem Cd (m:Nat)(h:lY P n0 nt x m tm hp nx G K):fq P n0 nt (.loop x) tm hp nx G K:=fun B w0 w ι a hs Q hn=>wpIn_loop_rounds m (h B w0 w ι a hs Q hn)
theorem Ar (h:fq P n0 nt x tm hp nx G (Tk (fun tm hp nx G=>lY P n0 nt x m tm hp nx G K) K)):lY P n0 nt x (m+1) tm hp nx G K:=by
 intro B w0 w ι a hs Q hn;rw[roundsIn_succ];refine h B w0 w ι a hs _ fun e tm' hp' nx' G' ι2 a' w' hk hs'=>?_;cases e with
 |gE=>exact hk B w0 w' ι2 a' hs' _ hn
 |ext id=>exact hn (.ext id) tm' hp' nx' G' ι2 a' w' hk hs'
 |ret=>exact hn .ret tm' hp' nx' G' ι2 a' w' hk hs'
theorem jH {K':Ex->Tm->Tr AO->Pz->GH->Prop}(h:fq P n0 nt c tm hp nx G K)(hk:∀e tm hp nx G,K e tm hp nx G->K' e tm hp nx G):fq P n0 nt c tm hp nx G K' :=
 fun B w0 w ι a hs Q hn=>h B w0 w ι a hs Q fun e tm' hp' nx' G' ι2 a' w' hk' hs'=>hn e tm' hp' nx' G' ι2 a' w' (hk _ _ _ _ _ hk') hs'
theorem xQ {id:Nat}(hm:ops.size=m)(h:lb P n0 nt ops 0 m tm hp nx G K):fq P n0 nt (.region id ops false) tm hp nx G K:=by
 intro B w0 w ι a hs Q hn;refine wpIn_region ?_;rw[zeq,hm];exact h B w0 w ι a hs Q hn
theorem HA (h:K .gE tm hp nx G):lb P n0 nt ops i 0 tm hp nx G K:=fun B w0 w ι a hs Q hn=>hn .gE tm hp nx G ι a w h hs
theorem Ce {id:Nat}(h:K (.ext id) tm hp nx G):fq P n0 nt (.exit id) tm hp nx G K:=fun B w0 w ι a hs Q hn=>wpIn_exit (hn (.ext id) tm hp nx G ι a w h hs)
theorem FH (h:K .ret tm hp nx G):fq P n0 nt .ret tm hp nx G K:=fun B w0 w ι a hs Q hn=>wpIn_ret (hn .ret tm hp nx G ι a w h hs)
theorem Cg (h:K .gE tm hp nx G):fq P n0 nt .skip tm hp nx G K:=fun B w0 w ι a hs Q hn=>wpIn_skip (hn .gE tm hp nx G ι a w h hs)
theorem sU {t:Nat}(ht:tm.at t=.bool true)(h:fq P n0 nt x tm hp nx G K):fq P n0 nt (.cond (.tmp t) x y) tm hp nx G K:=fun B w0 w ι a hs Q hn=>wpIn_cond_true (by
  show a.tmps.getD t undef=_
  rw[(hs.1.2 ι (ao.refl _ _)).1.val t,ht];rfl) (h B w0 w ι a hs Q hn)
theorem q9 {t:Nat}(ht:tm.at t=.bool false)(h:fq P n0 nt y tm hp nx G K):fq P n0 nt (.cond (.tmp t) x y) tm hp nx G K:=fun B w0 w ι a hs Q hn=>wpIn_cond_false (by
  show a.tmps.getD t undef=_
  rw[(hs.1.2 ι (ao.refl _ _)).1.val t,ht];rfl) (h B w0 w ι a hs Q hn)
end
end Go.aK
namespace Go.aK
open Go.RowKit
section
variable (P:Program)(ops:Array Oper)(aI:List Nat)
def gw (S:Nat->Prop)(i:Nat):Prop:=∀e∈(ae ops i).after,Region.binds .any e=true->S e.on
def bf (j i:Nat):Prop:=bit (Region.before ops) j i=true
def ld (h:Nat)(c:Act)(w:World)(K:Act->World->Prop):Prop :=
 (Region.wanted (ae ops h) (yielded ops c.tmps)=true/\dU P (execOp c.eval (ae ops h)) w (fun cv w'=>K (c.put (ae ops h).dst cv) w'))∨
 (Region.wanted (ae ops h) (yielded ops c.tmps)=false/\K (c.put (ae ops h).dst undef) w)
def Dr (Z:Act->World->Prop)(n:Nat):(Nat->Prop)->(Nat->Prop)->Act->World->Prop :=
 Nat.rec (motive:=fun _=>(Nat->Prop)->(Nat->Prop)->Act->World->Prop) (fun _ _ _ _=>False) (fun _ ih CE CH c w =>
  (∃i v d,i∈aI/\i<ops.size/\¬CE i/\(ae ops i).dst=some d/\gw ops (fun j=>CE j∨CH j) i/\Yv P ops (ae ops i) c w v/\ih (fun j=>j=i∨CE j) CH (c.put (some d) v) w)∨
  ((∀i∈aI,i<ops.size->¬CE i->¬gw ops (fun j=>CE j∨CH j) i)/\((∀i,i<ops.size->CE i∨CH i)->Z c w) /\
    ∀h,h<ops.size->h∉aI->¬CH h->gw ops (fun j=>CE j∨CH j) h ->
     ld P ops h c w fun c' w'=>(∀i d,CE i->(ae ops i).dst=some d->(∀g,(g=h∨CH g)->¬bf ops g i)->Yv P ops (ae ops i) c' w' (tv c' d))/\ih CE (fun j=>j=h∨CH j) c' w')) n
structure Lt (nt:Nat):Prop where
 look:∀i,i∈aI->i<ops.size->jB (ae ops i)=true/\∃d,(ae ops i).dst=some d/\d∉(ae ops i).looksAt ops
 Gy:∀i,i<ops.size->jB (ae ops i)=true
 own:∀i j d,i∈aI->i<ops.size->j<ops.size->i≠j->(ae ops i).dst=some d->(ae ops j).dst≠some d
 read:∀i j d,j∈aI->i<ops.size->j<ops.size->i≠j->(ae ops j).dst=some d->d∈(ae ops i).looksAt ops->bf ops i j
 write:∀i h d,i∈aI->h∉aI->i<ops.size->h<ops.size->(ae ops h).dst=some d->d∈(ae ops i).looksAt ops->bf ops i h∨bf ops h i
 xJ:∀i,i<ops.size->∀e∈(ae ops i).after,Region.binds .any e=true->e.on<i
 dst:∀i d,i<ops.size->(ae ops i).dst=some d->d<nt
end
section
variable {P:Program}{ops:Array Oper}{aI:List Nat}{nt:Nat}
theorem gw.mono {S S':Nat->Prop}{i:Nat}(h:gw ops S i)(hs:∀j,S j->S' j):gw ops S' i:=fun e he hb=>hs _ (h e he hb)
structure Inv (P:Program) (ops:Array Oper) (aI:List Nat) (nt:Nat) (L:Nat->Prop) (a:Act) (CE CH:Nat->Prop) (c:Act) (w:World):Prop where
 Dz:∀i,L i->CE i∨CH i
 Bt:∀i,L i->i<ops.size
 ce:∀i,CE i->i∈aI/\i<ops.size
 ch:∀h,CH h->h∉aI/\h<ops.size/\L h
 cl:∀i,(CE i∨CH i)->gw ops (fun j=>CE j∨CH j) i
 Tl:∀i,L i->gw ops L i
 SE:a.tmps.size=nt
 SF:c.tmps.size=nt
 VY:a.defers=c.defers
 eq:∀t,(∃i,CE i/\¬L i/\(ae ops i).dst=some t)∨tv a t=tv c t
 qs:∀i d,CE i->¬L i->(ae ops i).dst=some d->Yv P ops (ae ops i) c w (tv c d)
def Tn (P:Program)(ops:Array Oper)(aI:List Nat)(Z:Act->World->Prop)(f:Nat)(CE CH:Nat->Prop)(c:Act)(w:World):Prop :=
 (∀i∈aI,i<ops.size->¬CE i->¬gw ops (fun j=>CE j∨CH j) i)/\((∀i,i<ops.size->CE i∨CH i)->Z c w) /\
   ∀h,h<ops.size->h∉aI->¬CH h->gw ops (fun j=>CE j∨CH j) h ->
    ld P ops h c w fun c' w'=>(∀i d,CE i->(ae ops i).dst=some d->(∀g,(g=h∨CH g)->¬bf ops g i)->Yv P ops (ae ops i) c' w' (tv c' d))/\Dr P ops aI Z f CE (fun j=>j=h∨CH j) c' w'
theorem HB {S:Nat->Prop}(hlim:∀i,S i->i<ops.size)(hS:∀i,S i->gw ops S i){j i:Nat}(hj:S j)(hb:bf ops j i):S i:=by
 refine gX S (fun i o ho hi e he hbi=>?_) j i hj hb;have hlt:=hlim i hi;have:o=ae ops i:=by have:=j2 hlt;rw[ho]at this;exact Option.some.inj this
 subst this;exact hS i hi e he hbi
theorem advance (hl:Lt ops aI nt){Z:Act->World->Prop}{L CH:Nat->Prop}{a:Act}{w:World}:∀(f:Nat)(CE:Nat->Prop)(c:Act),Dr P ops aI Z f CE CH c w->Inv P ops aI nt L a CE CH c w ->
  ∃f' CE' c',Tn P ops aI Z f' CE' CH c' w/\Inv P ops aI nt L a CE' CH c' w
 |0,CE,c,h,_=>h.elim
 |f+1,CE,c,h,hi=>by
  rcases h with ⟨i,v,d,h1,h2,h3,h4,h5,h6,h7⟩|h
  ·have hnL:¬L i:=fun hL=>by
     rcases hi.Dz i hL with h|h
     ·exact h3 h
     ·exact (hi.ch i h).1 h1
   have hd:d<c.tmps.size:=by rw[hi.SF];exact hl.dst i d h2 h4
   refine advance hl f _ _ h7 ⟨fun j hj=>?_,hi.Bt,fun j hj=>?_,hi.ch,fun j hj=>?_,hi.Tl,hi.SE,by rw[jE];exact hi.SF,by rw[put_defers];exact hi.VY,fun t=>?_,fun j e hj hnj hje=>?_⟩
   ·rcases hi.Dz j hj with h|h
    ·exact .inl (.inr h)
    ·exact .inr h
   ·rcases hj with rfl|hj
    ·exact⟨h1,h2⟩
    ·exact hi.ce j hj
   ·rcases hj with (rfl|hj)|hj
    ·exact h5.mono fun k hk=>hk.imp .inr id
    ·exact (hi.cl j (.inl hj)).mono fun k hk=>hk.imp .inr id
    ·exact (hi.cl j (.inr hj)).mono fun k hk=>hk.imp .inr id
   ·by_cases ht:t=d
    ·subst ht;exact .inl ⟨i,.inl rfl,hnL,h4⟩
    ·rcases hi.eq t with ⟨j,q1,q2,q3⟩|hq
     ·exact .inl ⟨j,.inr q1,q2,q3⟩
     ·right;rw[hq,jd hd,if_neg ht]
   ·rcases hj with rfl|hj
    ·rw[h4]at hje;cases hje;rw[jd hd,if_pos rfl];obtain⟨p1,d',p2,p3⟩:=hl.look j h1 h2;rw[h4]at p2;cases p2;refine h6.same p1 fun t ht=>?_;rw[jd hd,if_neg (by intro e;subst e;exact p3 ht)]
    ·have hne:j≠i:=fun e=>h3 (e▸hj);have hjl:=hi.ce j hj;have hed:e≠d:=fun he=>by subst he;exact hl.own i j e h1 h2 hjl.2 hne.symm h4 hje
     rw[jd hd,if_neg hed];refine (hi.qs j e hj hnj hje).same (hl.look j hjl.1 hjl.2).1 fun t ht=>?_;rw[jd hd,if_neg]
     rintro rfl
     have hb:=hl.read j i t h1 hjl.2 h2 hne h4 ht;have:=HB (S:=fun k=>CE k∨CH k) (fun k hk=>hk.elim (fun h=>(hi.ce k h).2) (fun h=>(hi.ch k h).2.1)) hi.cl (.inl hj) hb;rcases this with h|h
     ·exact h3 h
     ·exact (hi.ch i h).1 h1
  ·exact⟨f,CE,c,h,hi⟩
theorem As (hl:Lt ops aI nt){L CE CH:Nat->Prop}{a c:Act}{w:World}(hi:Inv P ops aI nt L a CE CH c w){i:Nat}(hlt:i<ops.size)(hdeps:gw ops L i)(hn:¬L i):∀t∈(ae ops i).looksAt ops,tv c t=tv a t:=by
 intro t ht;rcases hi.eq t with ⟨j,q1,q2,q3⟩|hq
 ·exfalso;have hj:=hi.ce j q1;by_cases hne:i=j
  ·subst hne;obtain⟨p1,d',p2,p3⟩:=hl.look i hj.1 hj.2;rw[q3]at p2;cases p2;exact p3 ht
  ·have hb:=hl.read i j t hj.1 hlt hj.2 hne q3 ht
   have:=HB (S:=fun k=>k=i∨L k) (fun k hk=>hk.elim (fun h=>h▸hlt) (hi.Bt k)) (fun k hk=>by
    rcases hk with rfl|hk
    ·exact hdeps.mono fun _ h=>.inr h
    ·exact (hi.Tl k hk).mono fun _ h=>.inr h) (.inl rfl) hb
   rcases this with h|h
   ·exact hne h.symm
   ·exact q2 h
 ·exact hq.symm
def JD (P:Program)(ops:Array Oper)(aI:List Nat)(nt:Nat)(Z:Act->World->Prop)(L:Nat->Prop)(a:Act)(w:World):Prop :=
 ∃f CE CH c,Tn P ops aI Z f CE CH c w/\Inv P ops aI nt L a CE CH c w
theorem PT {a c:Act}(h1:a.tmps.size=c.tmps.size)(h2:a.defers=c.defers)(h:∀t,tv a t=tv c t):a=c:=by
 obtain⟨t1,d1⟩:=a;obtain⟨t2,d2⟩:=c;simp only at h1 h2;subst h2
 have:t1=t2:=by
  refine Array.ext h1 fun i Kw VZ=>?_;have:=h i;unfold tv at this;simp only[zah,zbf Kw,zbf VZ,zcb]at this;exact this
 subst this;rfl
theorem HC (hl:Lt ops aI nt){Z:Act->World->Prop}{L:Nat->Prop}{a:Act}{w:World}{i:Nat}(hj:JD P ops aI nt Z L a w)(hlt:i<ops.size)(hn:¬L i)(hdeps:gw ops L i)(hi:i∈aI) :
  ∃v,Yv P ops (ae ops i) a w v/\JD P ops aI nt Z (fun j=>j=i∨L j) (a.put (ae ops i).dst v) w:=by
 obtain⟨f,CE,CH,c,hs,hv⟩:=hj;have hce:CE i:=Classical.byContradiction fun h=>hs.1 i hi hlt h (hdeps.mono fun j hj=>hv.Dz j hj);obtain⟨p1,d,p2,p3⟩:=hl.look i hi hlt;have hy:=hv.qs i d hce hn p2;have hd:d<a.tmps.size:=by rw[hv.SE];exact hl.dst i d hlt p2
 refine⟨tv c d,hy.same p1 (As hl hv hlt hdeps hn),f,CE,CH,c,hs,⟨fun j hj=>?_,fun j hj=>?_,hv.ce,fun h hh=>?_,hv.cl,fun j hj=>?_,by rw[jE];exact hv.SE,hv.SF,by rw[put_defers];exact hv.VY,fun t=>?_,fun j e hj hnj hje=>?_⟩⟩
 ·rcases hj with rfl|hj
  ·exact .inl hce
  ·exact hv.Dz j hj
 ·rcases hj with rfl|hj
  ·exact hlt
  ·exact hv.Bt j hj
 ·obtain⟨q1,q2,q3⟩:=hv.ch h hh;exact⟨q1,q2,.inr q3⟩
 ·rcases hj with rfl|hj
  ·exact hdeps.mono fun _ h=>.inr h
  ·exact (hv.Tl j hj).mono fun _ h=>.inr h
 ·rw[p2];by_cases ht:t=d
  ·subst ht;right;rw[jd hd,if_pos rfl]
  ·rw[jd hd,if_neg ht];rcases hv.eq t with ⟨j,q1,q2,q3⟩|hq
   ·refine .inl ⟨j,q1,?_,q3⟩
    rintro (rfl|h)
    ·rw[p2]at q3;cases q3;exact ht rfl
    ·exact q2 h
   ·exact .inr hq
 ·exact hv.qs j e hj (fun h=>hnj (.inr h)) hje
theorem ld.same (hl:Lt ops aI nt){h:Nat}(hlt:h<ops.size){a c:Act}{w:World}(he:∀t∈(ae ops h).looksAt ops,tv c t=tv a t){K K':Act->World->Prop}(hk:ld P ops h c w K)
  (hkk:∀cv w',K (c.put (ae ops h).dst cv) w'->K' (a.put (ae ops h).dst cv) w'):ld P ops h a w K':=by
 unfold ld at hk ⊢;rw[<-gW (hl.Gy h hlt) he,<-ny he];rcases hk with ⟨h1,h2⟩|⟨h1,h2⟩
 ·exact .inl ⟨h1,h2.mono fun cv w' g=>hkk cv w' g⟩
 ·exact .inr ⟨h1,hkk _ _ h2⟩
theorem HD (hl:Lt ops aI nt){Z:Act->World->Prop}{L:Nat->Prop}{a:Act}{w:World}{h:Nat}(hj:JD P ops aI nt Z L a w)(hlt:h<ops.size)(hn:¬L h)(hdeps:gw ops L h)(hi:h∉aI) :
  ld P ops h a w fun a' w'=>JD P ops aI nt Z (fun j=>j=h∨L j) a' w':=by
 obtain⟨f,CE,CH,c,hs,hv⟩:=hj;have hnc:¬CH h:=fun hc=>hn (hv.ch h hc).2.2;refine (hs.2.2 h hlt hi hnc (hdeps.mono fun j hj=>hv.Dz j hj)).same hl hlt (As hl hv hlt hdeps hn) fun cv w' ⟨hre,hdr⟩=>?_
 have hinv:Inv P ops aI nt (fun j=>j=h∨L j) (a.put (ae ops h).dst cv) CE (fun j=>j=h∨CH j) (c.put (ae ops h).dst cv) w':=by
  refine⟨fun j hj=>?_,fun j hj=>?_,hv.ce,fun g hg=>?_,fun j hj=>?_,fun j hj=>?_,by rw[jE];exact hv.SE,by rw[jE];exact hv.SF,by rw[put_defers,put_defers];exact hv.VY,fun t=>?_,fun j e hj hnj hje=>?_⟩
  ·rcases hj with rfl|hj
   ·exact .inr (.inl rfl)
   ·exact (hv.Dz j hj).imp id .inr
  ·rcases hj with rfl|hj
   ·exact hlt
   ·exact hv.Bt j hj
  ·rcases hg with rfl|hg
   ·exact⟨hi,hlt,.inl rfl⟩
   ·obtain⟨q1,q2,q3⟩:=hv.ch g hg;exact⟨q1,q2,.inr q3⟩
  ·rcases hj with hj|rfl|hj
   ·exact (hv.cl j (.inl hj)).mono fun k hk=>hk.imp id .inr
   ·exact hdeps.mono fun k hk=>(hv.Dz k hk).imp id .inr
   ·exact (hv.cl j (.inr hj)).mono fun k hk=>hk.imp id .inr
  ·rcases hj with rfl|hj
   ·exact hdeps.mono fun _ h=>.inr h
   ·exact (hv.Tl j hj).mono fun _ h=>.inr h
  ·cases hdst:(ae ops h).dst with
   |none =>
    rw[sf,sf];rcases hv.eq t with ⟨j,q1,q2,q3⟩|hq
    ·refine .inl ⟨j,q1,?_,q3⟩
     rintro (rfl|hL)
     ·exact hi (hv.ce j q1).1
     ·exact q2 hL
    ·exact .inr hq
   |some d =>
    have hd:=hl.dst h d hlt hdst;rw[jd (by rw[hv.SE];exact hd),jd (by rw[hv.SF];exact hd)];by_cases ht:t=d
    ·rw[if_pos ht,if_pos ht];exact .inr rfl
    ·rw[if_neg ht,if_neg ht];rcases hv.eq t with ⟨j,q1,q2,q3⟩|hq
     ·refine .inl ⟨j,q1,?_,q3⟩
      rintro (rfl|hL)
      ·exact hi (hv.ce j q1).1
      ·exact q2 hL
     ·exact .inr hq
  ·refine hre j e hj hje fun g hg hb=>hnj ?_
   have hgL:(fun k=>k=h∨L k) g:=by
    rcases hg with rfl|hg
    ·exact .inl rfl
    ·exact .inr (hv.ch g hg).2.2
   exact HB (S:=fun k=>k=h∨L k) (fun k hk=>hk.elim (fun e=>e▸hlt) (hv.Bt k)) (fun k hk=>by
    rcases hk with rfl|hk
    ·exact hdeps.mono fun _ h=>.inr h
    ·exact (hv.Tl k hk).mono fun _ h=>.inr h) hgL hb
 obtain⟨f',CE',c',h1,h2⟩:=advance hl f CE _ hdr hinv;exact⟨f',CE',_,c',h1,h2⟩
theorem ld.wp {r:Option Nat}{i:Nat}(hi:i<ops.size){a:Act}{w:World}{K:Act->World->Prop}{Q:Exit->Act->World->Prop}(h:ld P ops i a w K):wpOpIn (fw r) 0 P ops Q i K a w:=by
 unfold wpOpIn;rw[j2 hi];simp only;rcases h with ⟨h1,h2⟩|⟨h1,h2⟩
 ·rw[if_pos h1];exact dU.wp h2 fun _ _ h=>h
 ·rw[if_neg (by rw[h1];decide)];exact⟨fun _ _=>trivial,h2⟩
theorem PU {r:Option Nat}(hl:Lt ops aI nt){Q:Exit->Act->World->Prop}:∀(fuel:Nat)(listed:Array Bool)(a:Act)(w:World),listed.size=ops.size->listed.toList.count false<=fuel ->
  JD P ops aI nt (Q .normal) (fun i=>listed.getD i false=true) a w->wpAnyIn (fw r) 0 P .any ops Q fuel listed a w:=by
 have endq:∀(listed:Array Bool) (a:Act) (w:World),listed.size=ops.size->JD P ops aI nt (Q .normal) (fun i=>listed.getD i false=true) a w->Region.ready .any ops listed=[]->Q .normal a w:=by
  intro listed a w hsz hj hrd
  have all:∀i,i<ops.size->listed.getD i false=true:=by
   intro i hi
   induction i using Nat.strongRecOn with
   |ind i ih =>
    rcases Bool.eq_false_or_eq_true (listed.getD i false)with h|h
    ·exact h
    ·exfalso
     have hmem:i∈Region.ready .any ops listed:=by
      rw[mem_ready];refine⟨?_,ae ops i,j2 hi,fun e he hb=>ih e.on (hl.xJ i hi e he hb) (by have:=hl.xJ i hi e he hb;omega)⟩;rw[zah,zbf (by omega)]at h ⊢;exact h
     rw[hrd]at hmem;simp at hmem
  obtain⟨f,CE,CH,c,hs,hv⟩:=hj;have hZ:=hs.2.1 fun i hi=>hv.Dz i (all i hi)
  have:a=c:=PT (by rw[hv.SE,hv.SF]) hv.VY fun t=>by
   rcases hv.eq t with ⟨j,q1,q2,q3⟩|hq
   ·exact absurd (all j (hv.ce j q1).2) q2
   ·exact hq
  rw[this];exact hZ
 intro fuel
 induction fuel with
 |zero =>
  intro listed a w hsz hc hh
  have hrd:Region.ready .any ops listed=[]:=by
   apply List.eq_nil_iff_forall_not_mem.2;intro j hj;rw[mem_ready]at hj;obtain⟨h1,_⟩:=hj
   have hlt:j<listed.size:=by
    rcases zdp j listed.size with h|h
    ·exact h
    ·rw[zah,zef h]at h1;cases h1
   have:false∈listed.toList:=by
    rw[zah,zbf hlt]at h1;simp only[zcb]at h1;rw[<-h1];exact Array.getElem_mem_toList hlt
   have:=List.count_pos_iff.2 this;omega
  exact⟨hrd,endq listed a w hsz hh hrd⟩
 |succ fuel ih =>
  intro listed a w hsz hc hh;refine⟨endq listed a w hsz hh,fun i hi=>?_⟩;rw[mem_ready]at hi;obtain⟨h1,o,ho,hpre⟩:=hi;have hlt:i<ops.size:=(Array.getElem?_eq_some_iff.1 ho).1;have hio:o=ae ops i:=by have:=j2 hlt;rw[ho]at this;exact Option.some.inj this
  subst hio;have hlt':i<listed.size:=by omega
  have hLi:¬listed.getD i false=true:=by
   rw[zah,zbf hlt']at h1 ⊢;simp only[zcb]at h1 ⊢;rw[h1];decide
  have hcount:(listed.setIfInBounds i true).toList.count false<=fuel:=by
   have hf:listed.toList[i]'(by simpa using hlt')=false:=by
    rw[zah,zbf hlt']at h1;simpa using h1
   have h2:(listed.toList.set i true).count false=listed.toList.count false-1:=by
    rw[List.count_set (by simpa using hlt')];simp[hf]
   have h3:0<listed.toList.count false:=List.count_pos_iff.2 (by rw[<-hf];exact zcp _);rw[Array.toList_setIfInBounds,h2];omega
  have hsz':(listed.setIfInBounds i true).size=ops.size:=by simpa using hsz
  have next:∀a' w',JD P ops aI nt (Q .normal) (fun j=>j=i∨listed.getD j false=true) a' w'->wpAnyIn (fw r) 0 P .any ops Q fuel (listed.setIfInBounds i true) a' w':=by
   intro a' w' h;refine ih _ a' w' hsz' hcount ?_;have e:(fun j=>(listed.setIfInBounds i true).getD j false=true)=fun j=>j=i∨listed.getD j false=true:=funext fun j=>MU hlt';rw[e];exact h
  by_cases hli:i∈aI
  ·obtain⟨v,hy,h2⟩:=HC hl hh hlt hLi hpre hli;exact hy.wp ho (next _ _ h2)
  ·have:=HD hl hh hlt hLi hpre hli;refine ld.wp hlt ?_;rcases this with ⟨p1,p2⟩|⟨p1,p2⟩
   ·exact .inl ⟨p1,p2.mono fun cv w' g=>next _ _ g⟩
   ·exact .inr ⟨p1,next _ _ p2⟩
theorem Kx {r:Option Nat}(hm:P.follows .mixedOrders=true)(hl:Lt ops aI nt){id:Nat}{Q:Exit->Act->World->Prop}{a:Act}{w:World}(hsz:a.tmps.size=nt){f:Nat}
  (h:Dr P ops aI (Q .normal) f (fun _=>False) (fun _=>False) a w.drew):(Code.region id ops true).wpIn (fw r) 0 P Q a w:=by
 refine wpIn_region_any hm ?_
 have no:∀i,¬(Array.replicate ops.size false).getD i false=true:=by
  intro i hi;rw[zah,zdz]at hi;split at hi<;>cases hi
 refine PU hl ops.size _ a w.drew (by simp) (by simp) ?_
 have hinv:Inv P ops aI nt (fun i=>(Array.replicate ops.size false).getD i false=true) a (fun _=>False) (fun _=>False) a w.drew :=
  ⟨fun i hi=>absurd hi (no i),fun i hi=>absurd hi (no i),fun i hi=>hi.elim,fun i hi=>hi.elim,fun i hi=>(by rcases hi with h|h<;>exact h.elim),fun i hi=>absurd hi (no i),hsz,hsz,rfl,fun t=>.inr rfl,fun i d hi=>hi.elim⟩
 obtain⟨f',CE',c',h1,h2⟩:=advance hl f _ _ h hinv;exact⟨f',CE',_,c',h1,h2⟩
end
end Go.aK
namespace Go.aK
open Go.RowKit
section
variable {P:Program}{n0 nt:Nat}{T T2:Tm}{hp H:Tr AO}{nx X:Pz}{G:GH}{ops:Array Oper}{aI:List Nat}{i m d:Nat}{v:AV}{call:bH}
theorem Ch {B:Nat->Prop}{w0 w:World}{ι ι':En}{a:Act}(h:dX n0 B w0 nt T hp nx G ι a w)(hι:ao nx ι ι'):dX n0 B w0 nt T hp nx G ι' a w :=
 ⟨⟨h.1.1,fun ι2 h2=>h.1.2 ι2 (hι.trans h2 (zad _))⟩,h.2.1,(fun id o hid ho=>by rw[(hι id (h.1.1.lt id o hid)).1];exact h.2.2.1 id o hid ho),h.2.2.2⟩
def ba (P:Program)(ops:Array Oper)(n0 nt i:Nat)(T:Tm)(hp:Tr AO)(nx:Pz)(G:GH)(v:AV):Prop :=
 ∀B w0 ι a w,dX n0 B w0 nt T hp nx G ι a w->Yv P ops (ae ops i) a w (ak ι v)
theorem ba.put {B:Nat->Prop}{w0 w:World}{ι:En}{a:Act}(h:ba P ops n0 nt i T hp nx G v)(hd:d<nt)(hs:dX n0 B w0 nt T hp nx G ι a w):dX n0 B w0 nt (T.put d v) hp nx G ι (a.put (some d) (ak ι v)) w:=by
 refine⟨⟨hs.1.1,fun ι' hι=>⟨?_,(hs.1.2 ι' hι).2⟩⟩,hs.2.1,hs.2.2⟩;exact kX (hs.1.2 ι' hι).1 hd ((h B w0 ι a w hs).PJ (h B w0 ι' a w (Ch hs hι)))
def fI (P:Program)(n0 nt:Nat)(ops:Array Oper)(i:Nat)(T:Tm)(hp:Tr AO)(nx:Pz)(G:GH)(R:Tm->Tr AO->Pz->GH->Prop):Prop :=
 ∀B w0 ι a w,dX n0 B w0 nt T hp nx G ι a w->ld P ops i a w fun a' w'=>∃T' hp' nx' G' ι2,R T' hp' nx' G'/\dX n0 B w0 nt T' hp' nx' G' ι2 a' w'
theorem Yv.step {o:Oper}{a:Act}{w:World}{cv:Value}(ho:ae ops i=o)(h:Yv P ops o a w cv){K:Act->World->Prop}(hk:K (a.put o.dst cv) w):ld P ops i a w K:=by
 subst ho;rcases h with ⟨h1,h2⟩|⟨h1,rfl⟩
 ·exact .inl ⟨h1,.inl ⟨cv,w,.inl h2,hk⟩⟩
 ·exact .inr ⟨h1,hk⟩
theorem ba.st (h:ba P ops n0 nt i T hp nx G v)(hd:(ae ops i).dst=some d)(hlt:d<nt){R:Tm->Tr AO->Pz->GH->Prop}(hr:R (T.put d v) hp nx G):fI P n0 nt ops i T hp nx G R:=by
 intro B w0 ι a w hs;refine Yv.step rfl (h B w0 ι a w hs) ⟨_,_,_,_,ι,hr,?_⟩;rw[hd];exact h.put hlt hs
theorem fI.mono {R R':Tm->Tr AO->Pz->GH->Prop}(h:fI P n0 nt ops i T hp nx G R)(hr:∀T hp nx G,R T hp nx G->R' T hp nx G):fI P n0 nt ops i T hp nx G R':=by
 intro B w0 ι a w hs;have:=h B w0 ι a w hs;rcases this with ⟨h1,h2⟩|⟨h1,T',hp',nx',G',ι2,g1,g2⟩
 ·exact .inl ⟨h1,h2.mono fun cv w' ⟨T',hp',nx',G',ι2,g1,g2⟩=>⟨T',hp',nx',G',ι2,hr _ _ _ _ g1,g2⟩⟩
 ·exact .inr ⟨h1,T',hp',nx',G',ι2,hr _ _ _ _ g1,g2⟩
theorem Ky {K:Ex->Tm->Tr AO->Pz->GH->Prop}(hi:i<ops.size)(h:fI P n0 nt ops i T hp nx G fun T' hp' nx' G'=>lb P n0 nt ops (i+1) m T' hp' nx' G' K):lb P n0 nt ops i (m+1) T hp nx G K:=by
 intro B w0 w ι a hs Q hn;rw[zek,wpOpsIn_cons];refine ld.wp hi ?_
 have h2:∀a' w',(∃T' hp' nx' G' ι2,lb P n0 nt ops (i+1) m T' hp' nx' G' K/\dX n0 B w0 nt T' hp' nx' G' ι2 a' w')->wpOpsIn (fw none) 0 P ops Q (List.range' (i+1) m) a' w' :=
  fun a' w' ⟨T',hp',nx',G',ι2,g1,g4⟩=>g1 B w0 w' ι2 a' g4 Q hn
 rcases h B w0 ι a w hs with ⟨p1,p2⟩|⟨p1,p2⟩
 ·exact .inl ⟨p1,p2.mono fun cv w' g=>h2 _ _ g⟩
 ·exact .inr ⟨p1,h2 _ _ p2⟩
def JP (P:Program)(n0 nt:Nat)(ops:Array Oper)(aI:List Nat)(f:Nat)(ce ch:List Nat)(T:Tm)(hp:Tr AO)(nx:Pz)(G:GH)(K:Tm->Tr AO->Pz->GH->Prop):Prop :=
 ∀B w0 ι a w,dX n0 B w0 nt T hp nx G ι a w->∀Z:Act->World->Prop,(∀T' hp' nx' G' ι2 a' w',K T' hp' nx' G'->dX n0 B w0 nt T' hp' nx' G' ι2 a' w'->Z a' w') ->
  Dr P ops aI Z f (fun j=>j∈ce) (fun j=>j∈ch) a w
def uv (ops:Array Oper)(l:List Nat)(i:Nat):Bool:=(ae ops i).after.all fun e=>!Region.binds .any e||l.contains e.on
theorem HE {l:List Nat}{S:Nat->Prop}(hS:∀j,j∈l->S j)(h:uv ops l i=true):gw ops S i:=by
 intro e he hb;have:=Array.all_eq_true'.1 h e he;rw[hb]at this;exact hS _ (by simpa using this)
theorem Au {l:List Nat}{S:Nat->Prop}(hS:∀j,S j->j∈l)(h:gw ops S i):uv ops l i=true:=by
 refine Array.all_eq_true'.2 fun e he=>?_;cases hb:Region.binds .any e with
 |false=>rfl
 |true=>simpa using hS _ (h e he hb)
def HF (ops:Array Oper)(aI ce ch:List Nat):List Nat:=(List.range ops.size).filter fun i=>aI.contains i&&(!ce.contains i&&uv ops (ce++ch) i)
def wo (ops:Array Oper)(aI ce ch:List Nat):List Nat:=(List.range ops.size).filter fun i=>!aI.contains i&&(!ch.contains i&&uv ops (ce++ch) i)
def HG (ops:Array Oper)(ce ch:List Nat):Bool:=(List.range ops.size).all fun i=>ce.contains i||ch.contains i
def xR (ops:Array Oper)(ce ch:List Nat):List Nat:=ce.filter fun i=>ch.all fun g=>!bit (Region.before ops) g i
variable {f:Nat}{ce ch:List Nat}{K:Tm->Tr AO->Pz->GH->Prop}
theorem FI (hm:(aI.contains i&&(!ce.contains i&&(Nat.blt i ops.size&&uv ops (ce++ch) i)))=true)(h:ba P ops n0 nt i T hp nx G v)(hd:(ae ops i).dst=some d)(hlt:d<nt)
  (hg:JP P n0 nt ops aI f (i::ce) ch (T.put d v) hp nx G K):JP P n0 nt ops aI (f+1) ce ch T hp nx G K:=by
 intro B w0 ι a w hs Z hz;simp only[za,zam,zbl]at hm;obtain⟨h1,h2,h3,h4⟩:=hm;have h2:i∉ce:=fun hc=>by rw[<-zbl]at hc;rw[hc]at h2;cases h2
 refine .inl ⟨i,ak ι v,d,h1,ax h3,h2,hd,HE (fun j hj=>List.mem_append.1 hj) h4,h B w0 ι a w hs,?_⟩;have:=hg B w0 ι _ w (h.put hlt hs) Z hz;have e:(fun j=>j∈i::ce)=fun j=>j=i∨j∈ce:=funext fun j=>by simp
 rw[e]at this;exact this
theorem Kz (hm:HG ops ce ch=true)(hm2:((List.range ops.size).all fun i=>!aI.contains i||ce.contains i)=true)(hm3:((List.range ops.size).all fun i=>aI.contains i||ch.contains i)=true)(hk:K T hp nx G):JP P n0 nt ops aI (f+1) ce ch T hp nx G K:=by
 intro B w0 ι a w hs Z hz;rw[zb]at hm2 hm3;refine .inr ⟨fun i hi hlt hc hd=>?_,fun _=>hz T hp nx G ι a w hk hs,fun g hlt hl hc hd=>?_⟩
 ·have:=hm2 i (List.mem_range.2 hlt);simp[hi,hc]at this
 ·have:=hm3 g (List.mem_range.2 hlt);simp[hl,hc]at this
end
end Go.aK
