/- Part Xac of the proof of ScopeEnds: no condition. -/
import Derived.ChangeSame
import Derived.Test.YtmabojcaklojhaaGreatXab
import Derived.Test.YtmabojcaklojhaaGreatXaa
set_option linter.unusedSimpArgs false
set_option linter.unusedVariables false
namespace Go.Rex
open Go.RowKit
section
variable {P:Program} {call:CallT}
theorem selLoop_ok {o:AO} {kk:Nat->Nat->Tm->Array Tmp->Code->Code->LS->Rs} (h:selLoop o kk=.ok):∃f nt tm ps x y st,o=.loop f nt tm ps x y st/\kk f nt tm ps x y st=.ok:=by
 cases o with
 | loop f nt tm ps x y st=>exact⟨f,nt,tm,ps,x,y,st,rfl,h⟩
 | _=>cases h
theorem isReady_ok {st:LS} {r:Rs} (h:isReady st r=.ok):st=.ready/\r=.ok:=by
 cases st with
 | ready=>exact⟨rfl,h⟩
 | _=>cases h
theorem loopSet_ok {id:Pz} {st:LS} {hp:Tr AO} {k:Tr AO->Rs} (h:loopSet id st hp k=.ok):∃f nt tm ps x y st0,hp.get id=some (.loop f nt tm ps x y st0)/\k (hp.set id (.loop f nt tm ps x y st))=.ok:=by
 obtain⟨o,ho,h⟩:=getK_ok h
 obtain⟨f,nt,tm,ps,x,y,st0,rfl,g⟩:=selLoop_ok h
 rw [Tr.setK_eq] at g
 exact⟨f,nt,tm,ps,x,y,st0,ho,g⟩
theorem paramsK_ok {nt:Nat} {k:Tm->Rs}:∀(ps:List Tmp) (vs:List AV) (tm:Tm),paramsK nt ps vs tm k=.ok->∃tm',k tm'=.ok/\tm'.ml=tm.ml/\ps.length=vs.length /\
  ∀ι (tmps:Array Value),tmps.size=nt->(∀t,tmps.getD t undef=ren ι (tm.at t))->((ps.zip (renL ι vs)).foldl (fun t (p:Tmp × Value)=>t.setIfInBounds p.1 p.2) tmps).size=nt/\∀t,((ps.zip (renL ι vs)).foldl (fun t (p:Tmp × Value)=>t.setIfInBounds p.1 p.2) tmps).getD t undef=ren ι (tm'.at t)
 | [],[],tm,h=>⟨tm,h,rfl,rfl,fun ι tmps h1 h2=>⟨h1,h2⟩⟩
 | [],_::_,tm,h=>by cases h
 | _::_,[],tm,h=>by cases h
 | p::ps,v::vs,tm,h=>by
   have h:ifK (Nat.blt p nt) ((setS p).run tm v fun tm=>paramsK nt ps vs tm k) (.bad 286)=.ok:=h
   obtain⟨hp,h⟩:=ifK_ok h
   have hp:=blt_ok hp
   rw [setS_eq] at h
   obtain⟨tm',hk,hml,hl,hrest⟩:=paramsK_ok ps vs _ h
   refine⟨tm',hk,by rw [hml,Tm.put_ml],by simp [hl],fun ι tmps h1 h2=>?_⟩
   simp only [renL,List.zip_cons_cons,List.foldl_cons]
   refine hrest ι _ (by rw [Array.size_setIfInBounds]; exact h1) fun t=>?_
   rw [getD_set _ _ _ _ _ (by rw [h1]; exact hp)]
   by_cases ht:t=p
   · subst ht; rw [if_pos rfl,Tm.at_put_same]
   · rw [if_neg ht,Tm.at_put_ne ht]; exact h2 t
theorem loop_put {B:Nat->Prop} {w0 w:World} {hp:Tr AO} {nx:Pz} {ι:En} {id:Pz} {f nt:Nat} {tm:Tm} {ps:Array Tmp} {x y:Code} {st0:LS} (hw:Wf hp nx) (ho:hp.get id=some (.loop f nt tm ps x y st0)) (hc:∀ι',Agree nx ι ι'->Core B w0 ι' hp w) (st:LS) :
  ∃r:Loop,w.heap[ι.blk id]?=some (.loop r)/\r.state=stOf st0/\r.pending=pendOf st0/\Wf (hp.set id (.loop f nt tm ps x y st)) nx/\∀ι',Agree nx ι ι'->Core B w0 ι' (hp.set id (.loop f nt tm ps x y st)) (w.putObj (ι.blk id) (.loop { r with state:=stOf st,pending:=pendOf st })):=by
 obtain⟨fnC,tmps,D,h1,h2,h3,h4⟩:=(hc ι (Agree.refl _ _)).obj _ _ ho
 have hlt:ι.blk id<w.heap.size:=(Array.getElem?_eq_some_iff.1 h1).1
 refine⟨_,h1,rfl,rfl,swap_wf hw ho rfl (fun _ _ h=>by cases h) rfl (fun _ _ h=>by cases h),fun ι' hι=>?_⟩
 have c1:=hc ι' hι
 have hbi:=(hι id (hw.lt _ _ ho)).1
 have hbase:=c1.base _ _ ho trivial
 rw [hbi] at hbase
 obtain⟨fnC',tmps',D',q1,q2,q3,q4⟩:=c1.obj _ _ ho
 rw [hbi,h1] at q1
 cases q1
 have hoth:∀b,b≠ι'.blk id->(w.putObj (ι.blk id) (.loop { state:=stOf st,pending:=pendOf st,fn:=fnC,tmps:=tmps,params:=ps,assign:=x,body:=y,defers:=D })).heap[b]?=w.heap[b]?:=fun b hbne=>World.putObj_heap_other (fun e=>hbne (by rw [hbi]; exact e))
 refine swap_core ho rfl (fun _ _ h=>by cases h) rfl (fun _ _ h=>by cases h) c1 (c1.below.trans ⟨rfl,rfl,rfl,by simp,fun b hb'=>hoth b (fun e=>hbase (by rw [<-hbi,<-e]; exact hb'))⟩) (fun k hk=>by simp; exact c1.room k hk) hoth ?_
 exact⟨fnC,tmps,D,by rw [hbi]; exact World.putObj_heap_same hlt,q2,q3,q4⟩
theorem yield_ok (hcode:CodeOk P call):YieldOk P call:=by
 intro j vs hp nx k h B w0 w ι cargs hw hc G hG
 have hpred:Nat.pred j=j-1:=rfl
 unfold yieldB at h
 rw [hpred] at h
 generalize hid:natPz (j-1)=id at h ⊢
 obtain⟨o,ho,h⟩:=getK_ok h
 obtain⟨f,nt,tm,ps,x,y,st,rfl,g⟩:=selLoop_ok h
 obtain⟨hno,g⟩:=ifK_ok g
 rw [Bool.and_eq_true] at hno
 obtain⟨tm',g,hml,hlen,hpar⟩:=paramsK_ok _ _ _ g
 have hidlt:=hw.lt _ _ ho
 have hc0:=fun ι' hι=>(hc ι' hι).1
 obtain⟨fnC,tmps,D,h1,h2,h3,h4⟩:=(hc0 ι (Agree.refl _ _)).obj _ _ ho
 have hcargs:∀ι',Agree nx ι ι'->cargs=(renL ι' vs).toArray:=fun ι' hι=>(hc ι' hι).2
 have hfold:∀ι',Agree nx ι ι'->(ps.zip cargs).foldl (fun tmps (t,a)=>tmps.setIfInBounds t a) tmps=(ps.toList.zip (renL ι' vs)).foldl (fun t (p:Tmp × Value)=>t.setIfInBounds p.1 p.2) tmps:=fun ι' hι=>by
  rw [hcargs ι' hι,<-Array.foldl_toList,Array.toList_zip]
 have hsat:Sat B w0 nt tm' hp nx ι { tmps:=(ps.zip cargs).foldl (fun tmps (t,a)=>tmps.setIfInBounds t a) tmps,defers:=[] } w:=by
  refine⟨hw,fun ι' hι=>⟨?_,hc0 ι' hι⟩⟩
  obtain⟨fnC',tmps',D',q1,q2,q3,q4⟩:=(hc0 ι' hι).obj _ _ ho
  rw [(hι id hidlt).1,h1] at q1
  cases q1
  obtain⟨e1,e2⟩:=hpar ι' tmps q2 q4
  refine⟨?_,by rw [hml,q3]; rfl,fun t=>?_⟩
  · show ((ps.zip cargs).foldl _ tmps).size=nt
    rw [hfold ι' hι]; exact e1
  · show ((ps.zip cargs).foldl _ tmps).getD t undef=_
    rw [hfold ι' hι]; exact e2 t
 have hrun:=run_yield (P:=P) (args:=cargs) h1 (by rw [hcargs ι (Agree.refl _ _)]; simp [renL_length,<-hlen])
 refine .inr (.inr ⟨_,_,_,_,_,w,hrun,roundIn_of_wpIn (F:=Fence.wide) (n:=0) trivial ?_⟩)
 refine hcode f nt x tm' hp nx _ g hno.1 (ι.blk id) B w0 w ι _ hsat _ (fun e tm1 hp1 nx1 ι1 a1 w1 hk1 hle1 ha1 hs1=>?_)
 cases e with
 | ext i=>cases hk1
 | ret=>cases hk1
 | nrm =>
   have hk1:hp1.getK id (.bad 284) (fun o=>selLoop o fun _ _ _ _ _ _ st=>isReady st (loopSet id .busy hp1 fun hp =>
     call.code f nt y tm1 hp nx1 fun e _ hp nx=>Ex.rec (motive:=fun _=>Rs)
      (loopSet id .ready hp fun hp=>k (.bool true) hp nx)
      (fun i=>loopSet id (.done (.ext i)) hp fun hp=>k (.bool false) hp nx)
      (loopSet id (.done .ret) hp fun hp=>k (.bool false) hp nx) e))=.ok:=hk1
   obtain⟨o1,ho1,hk1⟩:=getK_ok hk1
   obtain⟨f1,nt1,tmx,ps1,x1,y1,st1,rfl,g1⟩:=selLoop_ok hk1
   obtain⟨rfl,g1⟩:=isReady_ok g1
   obtain⟨f2,nt2,tm2,ps2,x2,y2,st2,ho2,g2⟩:=loopSet_ok g1
   rw [ho1] at ho2
   cases ho2
   have hb1:ι1.blk id=ι.blk id:=(ha1 id hidlt).1
   obtain⟨r,r1,r2,r3,hw2,hc2⟩:=loop_put hs1.1 ho1 (fun ι' hι=>(hs1.2 ι' hι).2) .busy
   rw [hb1] at r1 hc2
   have hbeg:=run_beginRound (P:=P) r1 r2
   have hreq:({ r with state:=stOf .busy,pending:=pendOf .busy }:Loop)={ r with state:=.busy }:=by
    have:r.pending=none:=r3
    rw [this]; rfl
   rw [hreq] at hc2
   refine⟨_,hbeg,?_⟩
   refine hcode f nt y tm1 _ nx1 _ g2 hno.2 (ι.blk id) B w0 _ ι1 a1 ⟨hw2,fun ι' hι=>⟨(hs1.2 ι' hι).1,hc2 ι' hι⟩⟩ _ (fun e tm3 hp3 nx3 ι3 a3 w3 hk3 hle3 ha3 hs3=>?_)
   have hb3:ι3.blk id=ι.blk id:=((ha1.trans ha3 hle1) id hidlt).1
   have fin:∀(st:LS) (jump:Option Code) (b:Bool),stOf st=(if jump.isNone then .ready else .done)->pendOf st=jump->jump.isNone=b->loopSet id st hp3 (fun hp=>k (.bool b) hp nx3)=.ok ->
     ∃v w4,(Instr.endRound (ι.blk id) jump).run P w3=.ok v w4/\∃cv,Ending.returned v=.returned cv/\G cv w4:=by
    intro st jump b e1 e2 e3 hl
    obtain⟨f4,nt4,tm4,ps4,x4,y4,st4,ho4,g4⟩:=loopSet_ok hl
    obtain⟨r',q1,q2,q3,hw4,hc4⟩:=loop_put hs3.1 ho4 (fun ι' hι=>(hs3.2 ι' hι).2) st
    rw [hb3] at q1 hc4
    rw [e1,e2] at hc4
    refine⟨_,_,run_endRound jump q1,.bool b,by rw [e3],?_⟩
    exact hG (.bool b) _ nx3 ι3 _ _ g4 hw4 (Nat.le_trans hle1 hle3) (ha1.trans ha3 hle1) fun ι' hι=>⟨hc4 ι' hι,by simp [ren]⟩
   cases e with
   | nrm=>exact fin .ready none true rfl rfl rfl hk3
   | ext i=>exact fin (.done (.ext i)) (some (.exit i)) false rfl rfl rfl hk3
   | ret=>exact fin (.done .ret) (some .ret) false rfl rfl rfl hk3
theorem loop_gone {B:Nat->Prop} {w0 w:World} {hp:Tr AO} {nx:Pz} {ι:En} {id:Pz} {f nt:Nat} {tm:Tm} {ps:Array Tmp} {x y:Code} {st0:LS} (hw:Wf hp nx) (ho:hp.get id=some (.loop f nt tm ps x y st0)) (hc:∀ι',Agree nx ι ι'->Core B w0 ι' hp w) :
  ∃r:Loop,w.heap[ι.blk id]?=some (.loop r)/\r.state=stOf st0/\r.pending=pendOf st0/\Wf (hp.set id .gone) nx/\∀o ι',Agree nx ι ι'->Core B w0 ι' (hp.set id .gone) (w.putObj (ι.blk id) o):=by
 obtain⟨fnC,tmps,D,h1,h2,h3,h4⟩:=(hc ι (Agree.refl _ _)).obj _ _ ho
 have hlt:ι.blk id<w.heap.size:=(Array.getElem?_eq_some_iff.1 h1).1
 refine⟨_,h1,rfl,rfl,swap_wf hw ho rfl (fun _ _ h=>by cases h) rfl (fun _ _ h=>by cases h),fun o ι' hι=>?_⟩
 have c1:=hc ι' hι
 have hbi:=(hι id (hw.lt _ _ ho)).1
 have hbase:=c1.base _ _ ho trivial
 rw [hbi] at hbase
 have hoth:∀b,b≠ι'.blk id->(w.putObj (ι.blk id) o).heap[b]?=w.heap[b]?:=fun b hbne=>World.putObj_heap_other (fun e=>hbne (by rw [hbi]; exact e))
 refine swap_core ho rfl (fun _ _ h=>by cases h) rfl (fun _ _ h=>by cases h) c1 (c1.below.trans ⟨rfl,rfl,rfl,by simp,fun b hb'=>hoth b (fun e=>hbase (by rw [<-hbi,<-e]; exact hb'))⟩) (fun k hk=>by simp; exact c1.room k hk) hoth ?_
 show ((w.putObj (ι.blk id) o).heap[ι'.blk id]?).isSome=true
 rw [hbi,World.putObj_heap_same hlt]; rfl
theorem pzNum_num (p:Pz):pzNum p=p.num:=by
 induction p with
 | h=>rfl
 | o p ih=>show 2*pzNum p=2*p.num; rw [ih]
 | i p ih=>show 2*pzNum p+1=2*p.num+1; rw [ih]
theorem natPz_of_num (p:Pz):natPz (p.num-1)=p:=by
 have:=Pz.num_pos p
 apply Pz.num_inj
 have h:=natPzF_num (p.num-1+1) (p.num-1+1) (by omega) (by omega)
 unfold natPz
 rw [h]; omega
theorem bodied_ok {g:Nat} (h:bodied P g=true):∃fn,P.funcs[g]?=some fn/\fn.body.isNone=false/\(fn.name == "runtime.NumGoroutine")=false:=by
 unfold bodied at h
 cases hf:P.funcs[g]? with
 | none=>rw [hf] at h; cases h
 | some fn =>
   rw [hf] at h
   simp only [Bool.and_eq_true,Bool.not_eq_true'] at h
   exact⟨fn,rfl,h.1,h.2⟩
theorem gives_enter {f:Nat} {fn:Func} {args:Array Value} {w:World} {G:Value->World->Prop} (hf:P.funcs[f]?=some fn) (hb:fn.body.isNone=false) (hn:(fn.name == "runtime.NumGoroutine")=false) (h:Gives P (callFunc f args) w G) :
  (callFunc f args).run P w=.ok (.enter f args) w/\Calls P f args w fun e w'=>∃cv,e=.returned cv/\G cv w':=by
 have hrun:(callFunc f args).run P w=.ok (.enter f args) w:=by
  simp only [callFunc,Sem.run_bind,run_program,Result.andThen_ok,hf,hn,hb,Bool.false_eq_true,if_false,Sem.run_pure]
 refine⟨hrun,?_⟩
 rcases h with ⟨cv,w',h | ⟨h,_⟩,_⟩ | ⟨f',args',w',h,hc⟩ | ⟨l,f',tmps,x,y,w',h,_⟩
 · rw [hrun] at h; cases h
 · rw [hrun] at h; cases h
 · rw [hrun] at h
   cases h
   exact hc
 · rw [hrun] at h; cases h
theorem range_ok (hcall:CallOk P call):RangeOk P call:=by
 intro fid nt g ps x y tm hp nx K h hnx hny B w0 w ι a hs Q hn
 unfold rangeFuncB at h
 obtain⟨fv,h,hfv⟩:=evB_ok h
 cases fv with
 | func fn first captured =>
   cases fn with
   | func gf =>
     cases first with
     | cons v vs=>cases h
     | nil =>
       obtain⟨hbd,g1⟩:=ifK_ok h
       obtain⟨fn,q1,q2,q3⟩:=bodied_ok hbd
       rw [newObj_eq] at g1
       rw [newObj_eq] at g1
       refine wpIn_rangeFunc fun fnC _=>?_
       obtain⟨rec,hrec⟩:∃rec:Loop,rec={ state:=.ready,pending:=none,fn:=fnC,tmps:=a.tmps,params:=ps,assign:=x,body:=y,defers:=w.heap.size }:=⟨_,rfl⟩
       obtain⟨w1,hw1⟩:∃w1,w1=w.alloc (.deferred (some [])):=⟨_,rfl⟩
       obtain⟨w2,hw2⟩:∃w2,w2=w1.alloc (.loop rec):=⟨_,rfl⟩
       have hsz1:w1.heap.size=w.heap.size+1:=by rw [hw1]; simp
       obtain⟨ι2,hι2⟩:∃ι2,ι2=(ι.at nx w.heap.size 0 0).at nx.succ (w.heap.size+1) 0 0:=⟨_,rfl⟩
       have hnames:∀ι',Agree nx.succ.succ ι2 ι'->Agree nx ι ι'/\ι'.blk nx=w.heap.size/\ι'.blk nx.succ=w.heap.size+1:=fun ι' hι=>by
        rw [hι2] at hι
        obtain⟨p1,p2,_,_⟩:=agree_at' hι
        obtain⟨p3,p4,_,_⟩:=agree_at' p1
        exact⟨p3,p4,p2⟩
       have hcore:∀ι',Agree nx.succ.succ ι2 ι'->Core B w0 ι' ((hp.set nx .dmark).set nx.succ (.loop fid nt ⟨tm.lo,tm.hi,[]⟩ ps x y .ready)) w2:=fun ι' hι=>by
        obtain⟨n1,n2,n3⟩:=hnames ι' hι
        obtain⟨t1,c1⟩:=hs.2 ι' n1
        have d1:Core B w0 ι' (hp.set nx .dmark) w1:=by
         rw [hw1]
         refine core_new hs.1 c1 n2 rfl (fun _ _ h=>by cases h) ?_
         show (w.alloc (.deferred (some []))).heap[ι'.blk nx]?=_
         rw [n2]; exact heap_alloc_at _ _
        rw [hw2]
        refine core_new (wf_new hs.1 rfl (fun _ _ h=>by cases h)) d1 (by rw [n3,hsz1]) rfl (fun _ _ h=>by cases h) ?_
        refine⟨fnC,a.tmps,w.heap.size,?_,t1.size,rfl,fun t=>t1.val t⟩
        rw [n3,<-hsz1,heap_alloc_at,hrec]
        rfl
       have hwf:Wf ((hp.set nx .dmark).set nx.succ (.loop fid nt ⟨tm.lo,tm.hi,[]⟩ ps x y .ready)) nx.succ.succ:=wf_new (wf_new hs.1 rfl (fun _ _ h=>by cases h)) rfl (fun _ _ h=>by cases h)
       have hcapt:∀ι',Agree nx ι ι'->renL ι' captured=renL ι captured:=fun ι' hι=>by
        obtain⟨t1,_⟩:=hs.2 ι (Agree.refl _ _)
        obtain⟨t2,_⟩:=hs.2 ι' hι
        have e1:=hfv ι nt a t1
        have e2:=hfv ι' nt a t2
        rw [e1] at e2
        simp only [ren,Value.func.injEq,Array.mk.injEq,true_and] at e2
        exact e2.2.symm.elim (fun p _=>p.symm)
       have hargs:∀ι',Agree nx.succ.succ ι2 ι'->(#[Value.func (.yield (w.heap.size+1)) #[] #[]]++(renL ι captured).toArray)=(renL ι' (.func (.yield (pzNum nx.succ)) [] []::captured)).toArray:=fun ι' hι=>by
        obtain⟨n1,n2,n3⟩:=hnames ι' hι
        simp only [renL,ren,renFn,pzNum_num,natPz_of_num,n3,hcapt ι' n1]
        simp
       have hev:a.eval g=.func (.func gf) #[] (renL ι captured).toArray:=by
        obtain⟨t1,_⟩:=hs.2 ι (Agree.refl _ _)
        rw [hfv ι nt a t1]
        simp [ren,renFn,renL]
       obtain⟨G,hG⟩:∃G:Value->World->Prop,G=fun _ w'=>∃v hp' nx' ι3,(hp'.getK nx.succ (.bad 284) fun o=>selLoop o fun _ _ _ _ _ _ st=>hp'.setK nx.succ .gone fun hp =>
         LS.rec (motive:=fun _=>Rs) (K .nrm ⟨tm.lo,tm.hi,nx::tm.ml⟩ hp nx') (.bad 287) (fun e=>Ex.rec (motive:=fun _=>Rs) (.bad 287) (fun i=>K (.ext i) ⟨tm.lo,tm.hi,nx::tm.ml⟩ hp nx') (K .ret ⟨tm.lo,tm.hi,nx::tm.ml⟩ hp nx') e) st)=.ok /\
          Wf hp' nx'/\nx.succ.succ.num<=nx'.num/\Agree nx.succ.succ ι2 ι3/\(∀ι',Agree nx' ι3 ι'->Core B w0 ι' hp' w')/\v=(v:AV):=⟨_,rfl⟩
       obtain⟨hrun,hcalls⟩:=gives_enter q1 q2 q3 (hcall.1 gf _ _ _ _ g1 B w0 w2 ι2 _ hwf (fun ι' hι=>⟨hcore ι' hι,hargs ι' hι⟩) G (fun v hp' nx' ι3 cv w' k1 k2 k3 k4 k5=>by
        rw [hG]
        exact⟨v,hp',nx',ι3,k1,k2,k3,k4,fun ι' hι=>(k5 ι' hι).1,rfl⟩))
       refine⟨w.heap.size+1,[{ target:=.collected w.heap.size,args:=#[] }],w2,{ target:=.fn (.func gf) (renL ι captured).toArray,args:=#[.func (.yield (w.heap.size+1)) #[] #[]] },w2,gf,#[Value.func (.yield (w.heap.size+1)) #[] #[]]++(renL ι captured).toArray,w2,?_,?_,fun _ _=>trivial,?_,fw_depth,?_⟩
       · have:=run_enterLoop_outer (P:=P) (w:=w) fnC a.tmps ps x y
         rw [hw2,hw1,hrec]
         exact this
       · simp only [resolve,rangeCall,hev,Deferred.ofValue,Sem.run_pure]
         simp [Act.eval]
       · simp only [invoke]
         exact hrun
       · refine CallsIn.mono (fw_calls hcalls none _) fun e w3 he=>?_
         obtain⟨cv,rfl,hg⟩:=he
         rw [hG] at hg
         obtain⟨v,hp',nx',ι3,k1,k2,k3,k4,k5,_⟩:=hg
         obtain⟨o,ho,k1⟩:=getK_ok k1
         obtain⟨f4,nt4,tm4,ps4,x4,y4,st,rfl,k6⟩:=selLoop_ok k1
         rw [Tr.setK_eq] at k6
         obtain⟨r,r1,r2,r3,hwf3,hc3⟩:=loop_gone k2 ho k5
         obtain⟨n1,n2,n3⟩:=hnames ι3 k4
         rw [n3] at r1 hc3
         have hle:nx.num<=nx'.num:=by rw [Pz.num_succ,Pz.num_succ] at k3; omega
         have hsat:∀o,Sat B w0 nt ⟨tm.lo,tm.hi,nx::tm.ml⟩ (hp'.set nx.succ .gone) nx' ι3 { a with defers:=[{ target:=.collected w.heap.size,args:=#[] }]++a.defers } (w3.putObj (w.heap.size+1) o):=fun o=>by
          refine⟨hwf3,fun ι' hι=>⟨?_,hc3 o ι' hι⟩⟩
          have hag:Agree nx.succ.succ ι2 ι':=k4.trans hι k3
          obtain⟨m1,m2,m3⟩:=hnames ι' hag
          obtain⟨t1,_⟩:=hs.2 ι' m1
          refine⟨t1.size,?_,fun t=>t1.val t⟩
          show [{ target:=.collected w.heap.size,args:=#[] }]++a.defers=marks ι' (nx::tm.ml)
          rw [t1.defers]
          simp only [marks,List.map_cons,m2,markOf]
          rfl
         cases st with
         | busy=>cases k6
         | ready =>
           refine⟨_,_,run_endLoop r1 (by rw [r2]; simp [stOf]),?_⟩
           rw [r3]
           exact hn .nrm _ _ nx' ι3 _ _ k6 hle n1 (hsat _)
         | done e =>
           cases e with
           | nrm=>cases k6
           | ext i =>
             refine⟨_,_,run_endLoop r1 (by rw [r2]; simp [stOf]),?_⟩
             rw [r3]
             exact wpIn_exit (hn (.ext i) _ _ nx' ι3 _ _ k6 hle n1 (hsat _))
           | ret =>
             refine⟨_,_,run_endLoop r1 (by rw [r2]; simp [stOf]),?_⟩
             rw [r3]
             exact wpIn_ret (hn .ret _ _ nx' ι3 _ _ k6 hle n1 (hsat _))
   | _=>cases h
 | _=>cases h
end
end Go.Rex
namespace Go.Rex
open Go.RowKit
section
variable {P:Program} {o:Oper} {tm:Tm} {hp:Tr AO} {nx:Pz} {k:AV->Tr AO->Pz->Rs} {call:CallT}
theorem bad_run {n:Nat} {p:Prop} (h:(badB n).run call tm hp nx k=.ok):p:=by cases h
theorem light_ok (hl:lightK P o=true) (h:(opB P o).run call tm hp nx k=.ok):ValTo P o tm hp nx k:=by
 unfold lightK at hl
 unfold opB at h
 cases hop:o.op with
 | move x=>rw [hop] at h; exact move_ok (.inl hop) h
 | assign x=>rw [hop] at h; exact move_ok (.inr hop) h
 | pick c x y=>rw [hop] at h; exact pick_ok hop h
 | build t ps =>
   rw [hop] at h
   simp only at h
   split at h
   · rename_i hz hu
     split at h
     · rename_i hp'; exact buildS_ok hop hz hu hp' h
     · exact bad_run h
   · rename_i hz hu
     split at h
     · rename_i hi; exact buildA_ok hop hz hu hi h
     · exact bad_run h
   · exact bad_run h
 | load t x =>
   rw [hop] at h
   simp only at h
   split at h
   · rename_i hk ht; exact load_agg_ok hop ht h
   · rename_i hk ht; exact load_one_ok hop hk ht h
   · exact bad_run h
 | nilCheck x =>
   rw [hop] at h
   obtain⟨v,h,hv⟩:=evB_ok (tm:=tm) (k:=fun v=>selPF v (.bad 136) (fun p o=>k (.ptr p o) hp nx) fun f a b=>match f with
    | .func f=>k (.func (.func f) a b) hp nx
    | _=>.bad 136) h
   cases v with
   | ptr p q=>exact val_to (fun B w0 ι nt a w ha hcc=>by simp only [execOp,hop]; rw [hv ι nt a ha]; simp [ren]) h
   | func fn u1 u2 =>
     cases fn with
     | func f=>exact val_to (v:=.func (.func f) u1 u2) (fun B w0 ι nt a w ha hcc=>by simp only [execOp,hop]; rw [hv ι nt a ha]; simp [ren,renFn]) h
     | _=>cases h
   | _=>cases h
 | binOp op t x y yt =>
   rw [hop] at h
   simp only at h
   split at h
   · rename_i hg; exact binOp_ok hop hg h
   · exact bad_run h
 | unOp op t x=>rw [hop] at h; exact unOp_ok hop h
 | makeFunc fn a b =>
   rw [hop] at h
   simp only at h
   split at h
   · rename_i hfn; exact makeFunc_ok hfn hop h
   · exact bad_run h
 | fieldAddr t x f =>
   rw [hop] at h
   simp only at h
   split at h
   · rename_i hf
     split at h
     · rename_i hz; exact fieldAddr_ok hop hf hz h
     · exact bad_run h
   · exact bad_run h
 | field t x f =>
   rw [hop] at h
   simp only at h
   split at h
   · rename_i hf
     split at h
     · exact bad_run h
     · rename_i hk ht
       obtain⟨v,h,hv⟩:=evB_ok (tm:=tm) h
       cases v with
       | agg cs =>
         obtain⟨h1,h⟩:=dropK_ok _ h
         obtain⟨h2,h⟩:=takeK_ok _ h
         exact field_ok hop hf hv (part_agg ht) h
       | _=>cases h
     · rename_i hk ht
       obtain⟨v,h,hv⟩:=evB_ok (tm:=tm) h
       cases v with
       | agg cs =>
         obtain⟨u,hu,h⟩:=nthK_ok _ h
         exact field_ok hop hf hv (part_one hk ht hu) h
       | _=>cases h
   · exact bad_run h
 | indexAddr t x i =>
   rw [hop] at h
   simp only at h
   split at h
   · rename_i hu
     split at h
     · rename_i hi
       exact indexSlice_ok hop hu ⟨_,hi⟩ h
     · exact bad_run h
   · rename_i hu
     split at h
     · rename_i hi; exact indexArr_ok hop hu ⟨_,hi⟩ h
     · exact bad_run h
   · exact bad_run h
 | index t x i =>
   rw [hop] at h
   simp only at h
   split at h
   · rename_i hu
     simp only [selStr_eq] at h
     exact indexStr_ok hop hu h
   · exact bad_run h
 | lookup t m i ok =>
   rw [hop] at h
   simp only [lookupB] at h
   split at h
   · rename_i hu
     split at h
     · rename_i hz; exact lookup_ok hop hu hz h
     · exact bad_run h
   · exact bad_run h
 | makeInterface t x =>
   rw [hop] at h
   simp only at h
   split at h
   · exact bad_run h
   · rename_i d hni hu; exact makeIface_ok hop hu (fun ms e=>hni ms e) h
   · exact bad_run h
 | extract x i =>
   rw [hop] at h
   simp only [selTup_eq] at h
   exact extract_ok hop h
 | convert s t x =>
   rw [hop] at h hl
   simp only [convB] at h hl
   split at hl
   · rename_i hs ht; rw [hs,ht] at h; exact convInt_ok hop hs ht h
   · rename_i hs ht; rw [hs,ht] at h; exact convStr_ok hop hs ht h
   · rename_i hs ht
     rw [hs,ht] at h
     simp only at h
     split at h
     · rename_i he; exact convBytes_ok hop hs ht he h
     · exact bad_run h
   · cases hl
 | slice t x lo hi mx =>
   rw [hop] at h hl
   cases mx with
   | some m=>cases hl
   | none =>
     simp only [sliceK] at h hl
     split at hl
     · rename_i hu
       rw [hu] at h
       simp only [selStr_eq] at h
       exact sliceStr_ok hop hu h
     · cases hl
 | call c =>
   rw [hop] at h hl
   simp only [callB] at h hl
   split at hl
   · rename_i hc
     rw [hc] at h
     generalize hats:c.argTypes.toList=ats at h
     generalize hx:c.args.toList=xs at h
     match ats,xs,hats,hx,h with
     | t::ts,[x],hats,hx,h=>exact len_ok (ats:=#[]) hop hc hats hx h
     | [],_,_,_,h=>cases h
     | _::_,[],_,_,h=>cases h
     | _::_,_::_::_,_,_,h=>cases h
   · rename_i hc
     rw [hc] at h
     generalize hats:c.argTypes.toList=ats at h
     generalize hx:c.args.toList=xs at h
     match ats,xs,hats,hx,h with
     | _,[x,y],hats,hx,h=>exact min_ok (mx:=false) hop hc hx h
     | [],[],_,_,h=>cases h
     | _::_,[],_,_,h=>cases h
     | [],[_],_,_,h=>cases h
     | _::_,[_],_,_,h=>cases h
     | [],_::_::_::_,_,_,h=>cases h
     | _::_,_::_::_::_,_,_,h=>cases h
   · rename_i hc
     rw [hc] at h
     generalize hats:c.argTypes.toList=ats at h
     generalize hx:c.args.toList=xs at h
     match ats,xs,hats,hx,h with
     | _,[x,y],hats,hx,h=>exact min_ok (mx:=true) hop hc hx h
     | [],[],_,_,h=>cases h
     | _::_,[],_,_,h=>cases h
     | [],[_],_,_,h=>cases h
     | _::_,[_],_,_,h=>cases h
     | [],_::_::_::_,_,_,h=>cases h
     | _::_,_::_::_::_,_,_,h=>cases h
   · cases hl
 | _=>rw [hop] at hl; cases hl
theorem new_ok (hl:newK P o=true) (h:(opB P o).run call tm hp nx k=.ok):NewTo P o tm hp nx k:=by
 unfold newK at hl
 unfold opB at h
 cases hop:o.op with
 | alloc e =>
   rw [hop] at h
   simp only at h
   split at h
   · rename_i hz; exact alloc_ok hop hz h
   · exact bad_run h
 | box e x=>rw [hop] at h; exact box_ok hop h
 | buildSlice t len ps =>
   rw [hop] at h
   simp only at h
   split at h
   · rename_i hu
     split at h
     · rename_i hz
       split at h
       · rename_i hg; exact buildSlice_ok hop hu hz hg h
       · exact bad_run h
     · exact bad_run h
   · exact bad_run h
 | makeMap t r =>
   rw [hop] at h
   cases r with
   | some r=>exact bad_run h
   | none=>exact makeMap_ok hop (fun ι nt a w ha=>rfl) h
 | _=>rw [hop] at hl; cases hl
def IsPure (b:OB):Prop:=(∃f,b=pureB f)∨∃n,b=badB n
theorem pureK_is (hl:pureK P o=true):IsPure (opB P o):=by
 unfold pureK at hl
 unfold opB
 cases hop:o.op<;>rw [hop] at hl<;>simp only [convB] at hl ⊢
 all_goals first | (cases hl; done) | skip
 all_goals repeat' (first | exact .inl ⟨_,rfl⟩ | exact .inr ⟨_,rfl⟩ | split)
 all_goals simp_all
theorem pureK_light (hl:pureK P o=true):lightK P o=true:=by
 unfold pureK at hl
 unfold lightK
 cases hop:o.op<;>rw [hop] at hl<;>simp only at hl ⊢
 all_goals first | (cases hl; done) | skip
 all_goals (split at hl<;>simp_all)
theorem pure_ok (hl:pureK P o=true) (h:(opB P o).run call tm hp nx k=.ok):∃v,k v hp nx=.ok/\OVal P o tm .e v:=by
 have he:(opB P o).run call tm .e nx (fun v _ _=>k v hp nx)=.ok:=by
  rcases pureK_is hl with ⟨f,hf⟩ | ⟨n,hf⟩
  · rw [hf] at h ⊢; exact h
  · rw [hf] at h; exact bad_run h
 exact light_ok (pureK_light hl) he
theorem opB_ok (hcall:CallOk P call):OpsOk P call:=by
 intro o tm hp nx k h
 cases hl:lightK P o with
 | true=>exact (light_ok hl h).to
 | false =>
   cases hn:newK P o with
   | true=>exact (new_ok hn h).to
   | false =>
     unfold opB at h
     cases hop:o.op with
     | store t a x =>
       rw [hop] at h
       simp only at h
       split at h
       · rename_i hi; exact store_ok hop h ⟨_,hi⟩
       · exact bad_run h
     | makeSlice t l c =>
       rw [hop] at h
       simp only at h
       split at h
       · rename_i hu
         split at h
         · rename_i hz
           split at h
           · rename_i hg; exact (makeSlice_ok hop hu hz hg h).to
           · exact bad_run h
         · exact bad_run h
       · exact bad_run h
     | mapUpdate t m i x =>
       rw [hop] at h
       simp only [updateB] at h
       split at h
       · rename_i hu; exact update_ok (.inl hop) hu h
       · exact bad_run h
     | insert t m i x =>
       rw [hop] at h
       simp only [updateB] at h
       split at h
       · rename_i hu; exact update_ok (.inr hop) hu h
       · exact bad_run h
     | mapEntry t m i =>
       rw [hop] at h
       simp only [entryB] at h
       split at h
       · rename_i hu
         split at h
         · rename_i hz; exact entry_ok hop hu hz h
         · exact bad_run h
       · exact bad_run h
     | entryStore t m s x=>rw [hop] at h; exact entryStore_ok hop h
     | range t x=>rw [hop] at h; exact rangeB_ok hop h
     | next it isS =>
       rw [hop] at h
       cases isS with
       | true=>exact bad_run h
       | false=>exact nextB_ok hop h
     | entry it=>rw [hop] at h; exact entryAtB_ok hop h
     | convert s t x =>
       rw [hop] at h
       simp only [convB] at h
       simp only [lightK,hop] at hl
       split at h
       · rename_i hs ht; rw [hs,ht] at hl; cases hl
       · rename_i hs ht; rw [hs,ht] at hl; cases hl
       · rename_i hs ht
         split at h
         · rename_i he; exact convToBytes_ok hop hs ht he h
         · exact bad_run h
       · rename_i hs ht
         split at h
         · rename_i he; exact convMark_ok hop hs ht he h
         · exact bad_run h
       · rename_i hs ht; rw [hs,ht] at hl; cases hl
       · exact bad_run h
     | slice t x lo hi mx =>
       rw [hop] at h
       simp only [sliceK] at h
       split at h
       · rename_i hu
         cases mx with
         | none=>simp only [lightK,hop,hu] at hl; cases hl
         | some m=>exact bad_run h
       · rename_i el hu
         split at h
         · exact bad_run h
         · exact bad_run h
         · rename_i hi' hmx
           have hmx:mx=none:=by cases mx with | none=>rfl | some m=>cases hmx
           subst hmx
           obtain⟨v,h,hv⟩:=evB_ok (tm:=tm) h
           cases v with
           | slice id off len cap=>exact (sliceEx_ok hop hu ⟨_,hi'⟩ hv h).to
           | oslice id off len skip=>exact sliceOp_ok hop hu ⟨_,hi'⟩ hv h
           | nils=>exact (sliceNil_ok hop hu ⟨_,hi'⟩ hv h).to
           | _=>cases h
       · exact bad_run h
     | call c =>
       rw [hop] at h
       simp only [callB] at h
       simp only [lightK,hop] at hl
       split at h
       · rename_i b hc
         rw [hc] at hl
         generalize hats:c.argTypes.toList=ats at h
         generalize hx:c.args.toList=xs at h
         unfold builtinB at h
         split at h
         · cases hl
         · rename_i ts tx s x
           split at h
           · exact bad_run h
           · rename_i e d hni hts htx
             split at h
             · rename_i z hz
               split at h
               · rename_i hg
                 exact append_sound hop hc hats hx hts htx (fun kd e=>hni kd e) hz hg (fun v id off len skip ls h1 h2 h3 h4 h5=>append_tail hop hc hats hx hts htx (fun kd e=>hni kd e) hz hg v id off len skip ls h1 h2 h3 h4 h5) h
               · exact bad_run h
             · exact bad_run h
           · exact bad_run h
         · cases hl
         · cases hl
         · rename_i t ts m i
           simp only [deleteB] at h
           split at h
           · rename_i hu; exact delete_ok hop hc hats hx hu h
           · exact bad_run h
         · exact bad_run h
       · rename_i f hc; exact call_to hcall (yield_ok hcall.2) hop hc h
       · exact bad_run h
     | alloc=>simp only [newK,hop] at hn; cases hn
     | box=>simp only [newK,hop] at hn; cases hn
     | buildSlice=>simp only [newK,hop] at hn; cases hn
     | makeMap=>simp only [newK,hop] at hn; cases hn
     | _=>first | (simp only [lightK,hop] at hl; cases hl; done) | (rw [hop] at h; exact bad_run h)
end
end Go.Rex
namespace Go.Rex
open Go.RowKit
def tv (a:Act) (t:Nat):Value:=a.tmps.getD t undef
theorem tv_put {a:Act} {d:Nat} (hd:d<a.tmps.size) (v:Value) (t:Nat):tv (a.put (some d) v) t=if t=d then v else tv a t:=getD_set _ _ _ _ _ hd
theorem tv_put_none (a:Act) (v:Value) (t:Nat):tv (a.put none v) t=tv a t:=rfl
theorem put_size (a:Act) (d:Option Tmp) (v:Value):(a.put d v).tmps.size=a.tmps.size:=by cases d<;>simp [Act.put]
theorem put_defers (a:Act) (d:Option Tmp) (v:Value):(a.put d v).defers=a.defers:=by cases d<;>rfl
section
variable {P:Program} {ops:Array Oper}
theorem exec_same {o:Oper} (hs:notSel o=true) {a a':Act} (h:∀t∈o.looksAt ops,tv a t=tv a' t):execOp a.eval o=execOp a'.eval o:=by
 refine execOp_congr o (fun cs b e=>by unfold notSel at hs; rw [e] at hs; cases hs) (fun x hx=>?_)
 cases x with
 | tmp t=>exact h t (List.mem_append_left _ (List.mem_filterMap.2 ⟨.tmp t,by simpa using hx,rfl⟩))
 | _=>rfl
theorem yielded_same {a a':Act} {j:Nat} (h:∀t,(ops[j]?).bind (·.dst)=some t->tv a t=tv a' t):yielded ops a.tmps j=yielded ops a'.tmps j:=by
 unfold yielded
 cases ho:(ops[j]?).bind (·.dst) with
 | none=>rfl
 | some t =>
   have e:=h t ho
   unfold tv at e
   rw [Array.getD_eq_getD_getElem?,Array.getD_eq_getD_getElem?] at e
   simp only [Option.bind_some]
   cases h1:a.tmps[t]? with
   | none =>
     cases h2:a'.tmps[t]? with
     | none=>rfl
     | some v=>rw [h1,h2] at e; simp only [Option.getD_none,Option.getD_some] at e; rw [<-e]; rfl
   | some v =>
     cases h2:a'.tmps[t]? with
     | none=>rw [h1,h2] at e; simp only [Option.getD_none,Option.getD_some] at e; rw [e]; rfl
     | some u=>rw [h1,h2] at e; simp only [Option.getD_some] at e; rw [e]
theorem wanted_same {o:Oper} {a a':Act} (h:∀t∈o.looksAt ops,tv a t=tv a' t):Region.wanted o (yielded ops a.tmps)=Region.wanted o (yielded ops a'.tmps):=by
 unfold Region.wanted
 cases hg:o.guard with
 | none=>rfl
 | some g =>
   obtain⟨j,want⟩:=g
   simp only
   rw [yielded_same (a:=a) (a':=a') fun t ht=>h t (List.mem_append_right _ (by rw [hg]; simp [ht]))]
def Yv (P:Program) (ops:Array Oper) (o:Oper) (a:Act) (w:World) (cv:Value):Prop :=
 (Region.wanted o (yielded ops a.tmps)=true/\(execOp a.eval o).run P w=.ok (.value cv) w)∨(Region.wanted o (yielded ops a.tmps)=false/\cv=undef)
theorem Yv.same {o:Oper} {a a':Act} {w:World} {cv:Value} (hs:notSel o=true) (h:∀t∈o.looksAt ops,tv a t=tv a' t) (hy:Yv P ops o a w cv):Yv P ops o a' w cv:=by
 unfold Yv
 rw [<-exec_same hs h,<-wanted_same h]
 exact hy
theorem Yv.det {o:Oper} {a:Act} {w:World} {x y:Value} (h:Yv P ops o a w x) (h':Yv P ops o a w y):x=y:=by
 rcases h with ⟨h1,h2⟩ | ⟨h1,rfl⟩<;>rcases h' with ⟨h3,h4⟩ | ⟨h3,rfl⟩
 · rw [h2] at h4; simpa using h4
 · rw [h1] at h3; cases h3
 · rw [h1] at h3; cases h3
 · rfl
theorem Yv.wp {r:Option Nat} {o:Oper} {i:Nat} {a:Act} {w:World} {cv:Value} {Q:Exit->Act->World->Prop} {K:Act->World->Prop} (hi:ops[i]?=some o) (hy:Yv P ops o a w cv) (h:K (a.put o.dst cv) w):wpOpIn (fw r) 0 P ops Q i K a w:=by
 unfold wpOpIn
 rw [hi]
 simp only
 rcases hy with ⟨h1,h2⟩ | ⟨h1,rfl⟩
 · rw [if_pos h1]; exact Gives.wp (G:=fun cv' w'=>cv'=cv/\w'=w) (.inl ⟨cv,w,.inl h2,rfl,rfl⟩) fun cv' w' ⟨e1,e2⟩=>by rw [e1,e2]; exact h
 · rw [if_neg (by rw [h1]; decide)]; exact⟨fun _ _=>trivial,h⟩
def LV (P:Program) (ops:Array Oper) (nt:Nat) (o:Oper) (tm:Tm) (hp:Tr AO) (v:AV):Prop :=
 ∀B w0 ι a w,TmpOk ι nt tm a->Core B w0 ι hp w->Yv P ops o a w (ren ι v)
theorem core_e (ι:En) (w:World):Core (fun _=>False) w ι .e w :=
 have no:∀{id:Pz} {o:AO} {p:Prop},(Tr.e:Tr AO).get id=some o->p:=fun h=>by rw [Tr.get_e] at h; cases h
 ⟨Kept.refl _ _,fun _ h=>h.elim,fun _ _ h=>no h,fun _ _ h=>no h,fun _ _ _ _ _ h=>no h,fun _ _ _ _ _ _ _ _ _ _ _ _ _ _ _ _ h=>no h⟩
noncomputable def setD (d:Option Tmp) (tm:Tm) (v:AV):Tm:=match d with | none=>tm | some d=>tm.put d v
variable {call:CallT} {nt:Nat} {tm:Tm} {hp:Tr AO} {nx:Pz} {K:Tm->Tr AO->Pz->Rs} {o:Oper}
theorem putB_ok {d:Option Tmp} {b:OB} (h:(putB nt d b).run call tm hp nx K=.ok):(∀t,d=some t->t<nt)/\b.run call tm hp nx (fun v hp nx=>K (setD d tm v) hp nx)=.ok:=by
 unfold putB at h
 cases d with
 | none=>exact⟨fun t e=>(by cases e),h⟩
 | some t =>
   simp only at h
   cases hlt:Nat.blt t nt with
   | false=>rw [hlt] at h; cases h
   | true =>
     rw [hlt] at h
     refine⟨fun u e=>by cases e; exact blt_ok hlt,?_⟩
     have e:(fun v hp nx=>(setS t).run tm v fun tm=>K tm hp nx)=fun v hp nx=>K (setD (some t) tm v) hp nx:=by
      funext v hp nx
      rw [setS_eq]; rfl
     rw [<-e]
     exact h
theorem step_cases (h:(stepB P nt ops o).run call tm hp nx K=.ok):(∀t,o.dst=some t->t<nt) /\
  (((∀ι a,TmpOk ι nt tm a->Region.wanted o (yielded ops a.tmps)=true)/\(opB P o).run call tm hp nx (fun v hp nx=>K (setD o.dst tm v) hp nx)=.ok) ∨
   ((∀ι a,TmpOk ι nt tm a->Region.wanted o (yielded ops a.tmps)=false)/\K (setD o.dst tm undefA) hp nx=.ok)):=by
 unfold stepB at h
 cases hg:o.guard with
 | none =>
   rw [hg] at h
   obtain⟨h1,h2⟩:=putB_ok h
   exact⟨h1,.inl ⟨fun ι a _=>by simp [Region.wanted,hg],h2⟩⟩
 | some g =>
   obtain⟨j,want⟩:=g
   rw [hg] at h
   simp only at h
   cases hd:yielded? ops nt j with
   | none=>rw [hd] at h; cases h
   | some d =>
     rw [hd] at h
     have h:(getS d).run tm (fun v=>selBz v ((putB nt o.dst (pureB fun _ k=>k undefA)).run call tm hp nx K) fun b =>
      ifK (boolEq b want) ((putB nt o.dst (opB P o)).run call tm hp nx K) ((putB nt o.dst (pureB fun _ k=>k undefA)).run call tm hp nx K))=.ok:=h
     rw [getS_eq] at h
     have hy:∀ι a,TmpOk ι nt tm a->yielded ops a.tmps j=match tm.at d with | .bool b=>some b | _=>none:=fun ι a ha=>yielded_of hd ha
     have no:(∀ι a,TmpOk ι nt tm a->yielded ops a.tmps j≠some want)->(putB nt o.dst (pureB fun _ k=>k undefA)).run call tm hp nx K=.ok->(∀t,o.dst=some t->t<nt)/\(((∀ι a,TmpOk ι nt tm a->Region.wanted o (yielded ops a.tmps)=true)/\(opB P o).run call tm hp nx (fun v hp nx=>K (setD o.dst tm v) hp nx)=.ok) ∨
       ((∀ι a,TmpOk ι nt tm a->Region.wanted o (yielded ops a.tmps)=false)/\K (setD o.dst tm undefA) hp nx=.ok)):=by
      intro hne hp'
      obtain⟨h1,h2⟩:=putB_ok hp'
      exact⟨h1,.inr ⟨fun ι a ha=>by simp [Region.wanted,hg]; exact hne ι a ha,h2⟩⟩
     cases hv:tm.at d with
     | bool b =>
       rw [hv] at h
       rcases ifK_two h with ⟨hb,h⟩ | ⟨hb,h⟩
       · have hb:b=want:=by rw [boolEq_eq] at hb; simpa using hb
         obtain⟨h1,h2⟩:=putB_ok h
         exact⟨h1,.inl ⟨fun ι a ha=>by simp [Region.wanted,hg,hy ι a ha,hv,hb],h2⟩⟩
       · have hb:b≠want:=by rw [boolEq_eq] at hb; simpa using hb
         exact no (fun ι a ha=>by rw [hy ι a ha,hv]; simp [hb]) h
     | _=>rw [hv] at h; exact no (fun ι a ha=>by rw [hy ι a ha,hv]; simp) h
theorem light_step (hl:lightK P o=true) (h:(stepB P nt ops o).run call tm hp nx K=.ok):(∀t,o.dst=some t->t<nt)/\∃v,K (setD o.dst tm v) hp nx=.ok/\LV P ops nt o tm hp v:=by
 obtain⟨h1,⟨h2,h3⟩ | ⟨h2,h3⟩⟩:=step_cases h
 · obtain⟨v,hk,hv⟩:=light_ok hl h3
   exact⟨h1,v,hk,fun B w0 ι a w ha hc=>.inl ⟨h2 ι a ha,hv B w0 ι nt a w ha hc⟩⟩
 · exact⟨h1,undefA,h3,fun B w0 ι a w ha hc=>.inr ⟨h2 ι a ha,ren_undef ι⟩⟩
theorem pure_step (hl:pureK P o=true) (h:(stepB P nt ops o).run call tm hp nx K=.ok):(∀t,o.dst=some t->t<nt)/\∃v,K (setD o.dst tm v) hp nx=.ok/\LV P ops nt o tm .e v:=by
 obtain⟨h1,⟨h2,h3⟩ | ⟨h2,h3⟩⟩:=step_cases h
 · obtain⟨v,hk,hv⟩:=pure_ok hl h3
   exact⟨h1,v,hk,fun B w0 ι a w ha hc=>.inl ⟨h2 ι a ha,hv B w0 ι nt a w ha hc⟩⟩
 · exact⟨h1,undefA,h3,fun B w0 ι a w ha hc=>.inr ⟨h2 ι a ha,ren_undef ι⟩⟩
theorem new_step (hn:newK P o=true) (hg:o.guard=none) (h:(stepB P nt ops o).run call tm hp nx K=.ok):(∀t,o.dst=some t->t<nt)/\∃v x,K (setD o.dst tm v) (hp.set nx x) nx.succ=.ok/\NewAt P o tm nx v x:=by
 unfold stepB at h
 rw [hg] at h
 obtain⟨h1,h2⟩:=putB_ok h
 obtain⟨v,x,hk,hx⟩:=new_ok hn h2
 exact⟨h1,v,x,hk,hx⟩
theorem heavy_step (hops:OpsOk P call) (h:(stepB P nt ops o).run call tm hp nx K=.ok) {B:Nat->Prop} {w0 w:World} {ι:En} {a:Act} (hs:Sat B w0 nt tm hp nx ι a w) {G:Value->World->Prop}
  (hG:∀cv w' v hp' nx' ι2,K (setD o.dst tm v) hp' nx'=.ok->nx.num<=nx'.num->Agree nx ι ι2->Wf hp' nx'->(∀ι',Agree nx' ι2 ι'->Core B w0 ι' hp' w'/\cv=ren ι' v)->G cv w') :
  (∀t,o.dst=some t->t<nt)/\((Region.wanted o (yielded ops a.tmps)=true/\Gives P (execOp a.eval o) w G)∨(Region.wanted o (yielded ops a.tmps)=false/\G undef w)):=by
 obtain⟨h1,⟨h2,h3⟩ | ⟨h2,h3⟩⟩:=step_cases h
 · refine⟨h1,.inl ⟨h2 ι a (hs.2 ι (Agree.refl _ _)).1,hops o tm hp nx _ h3 B w0 nt a w ι hs G ?_⟩⟩
   intro v hp' nx' ι2 cv w' hk hw hle ha hc
   exact hG cv w' v hp' nx' ι2 hk hle ha hw hc
 · exact⟨h1,.inr ⟨h2 ι a (hs.2 ι (Agree.refl _ _)).1,hG undef w undefA hp nx ι h3 (Nat.le_refl _) (Agree.refl _ _) hs.1 (fun ι' hι=>⟨(hs.2 ι' hι).2,(ren_undef ι').symm⟩)⟩⟩
theorem LV.set {v u:AV} {d:Nat} (hs:notSel o=true) (hd:d<nt) (hn:d ∉ o.looksAt ops) (h:LV P ops nt o tm hp v):LV P ops nt o (tm.put d u) hp v:=by
 intro B w0 ι a w ha hc
 have hsz:d<a.tmps.size:=by rw [ha.size]; exact hd
 have h0:TmpOk ι nt tm (a.put (some d) (ren ι (tm.at d))):=by
  refine⟨by rw [put_size]; exact ha.size,by rw [put_defers,ha.defers,Tm.put_ml],fun t=>?_⟩
  have:=tv_put hsz (ren ι (tm.at d)) t
  unfold tv at this
  rw [this]
  by_cases ht:t=d
  · subst ht; rw [if_pos rfl]
  · rw [if_neg ht,ha.val t,Tm.at_put_ne ht]
 refine (h B w0 ι _ w h0 hc).same hs (fun t ht=>?_)
 rw [tv_put hsz,if_neg (by intro e; subst e; exact hn ht)]
theorem LV.setD {v v':AV} {d:Option Tmp} (hs:notSel o=true) (hd:∀t,d=some t->t<nt) (hn:∀t,d=some t->t ∉ o.looksAt ops) (h:LV P ops nt o tm hp v):LV P ops nt o (Rex.setD d tm v') hp v:=by
 cases d with
 | none=>exact h
 | some t=>exact h.set hs (hd t rfl) (hn t rfl)
theorem pzEq_ok:∀(p q:Pz),pzEq p q=true->p=q:=by
 intro p
 induction p with
 | h=>intro q h; cases q<;>first | rfl | cases h
 | o p ih=>intro q h; cases q<;>first | (cases h; done) | (rw [ih _ h])
 | i p ih=>intro q h; cases q<;>first | (cases h; done) | (rw [ih _ h])
theorem eq1_ok {a b:AV} (h:eq1 a b=true):a=b:=by
 unfold eq1 at h
 split at h
 all_goals first | (cases h; done) | rfl | skip
 · simp only [beq_iff_eq] at h; rw [h]
 · simp only [Bool.and_eq_true,decide_eq_true_eq,beq_iff_eq] at h; rw [h.1,h.2]
 · simp only [Bool.and_eq_true] at h; rw [beq_ok h.1,beq_ok h.2]
 · simp only [Bool.and_eq_true,decide_eq_true_eq] at h; rw [h.1,beq_ok h.2]
 · simp only [Bool.and_eq_true] at h; rw [pzEq_ok _ _ h.1,beq_ok h.2]
 · simp only [Bool.and_eq_true] at h; rw [pzEq_ok _ _ h.1,beq_ok h.2.1,beq_ok h.2.2.1,beq_ok h.2.2.2]
 · simp only [Bool.and_eq_true] at h; rw [pzEq_ok _ _ h.1,beq_ok h.2.1,beq_ok h.2.2.1,beq_ok h.2.2.2]
 · rw [pzEq_ok _ _ h]
theorem eqL_ok {f:AV->AV->Bool} (hf:∀a b,f a b=true->a=b):∀(x y:List AV),eqL f x y=true->x=y
 | [],[],_=>rfl
 | [],_::_,h=>by cases h
 | _::_,[],h=>by cases h
 | a::x,b::y,h=>by
   have h:Bool.rec (motive:=fun _=>Bool) false (eqL f x y) (f a b)=true:=h
   cases hb:f a b with
   | false=>rw [hb] at h; cases h
   | true=>rw [hb] at h; rw [hf _ _ hb,eqL_ok hf x y h]
theorem eq2_ok {a b:AV} (h:eq2 a b=true):a=b:=by
 unfold eq2 at h
 split at h
 · rw [eqL_ok (fun _ _=>eq1_ok) _ _ h]
 · exact eq1_ok h
theorem eqA_ok {a b:AV} (h:eqA a b=true):a=b:=by
 unfold eqA at h
 split at h
 · rw [eqL_ok (fun _ _=>eq2_ok) _ _ h]
 · exact eq2_ok h
def EFact (P:Program) (ops:Array Oper) (nt:Nat) (tm:Tm) (hp:Tr AO) (o:Oper):Prop:=∃v,(∀d,o.dst=some d->tm.at d=v/\d<nt)/\LV P ops nt o tm hp v
theorem again_ok (hl:lightK P o=true) (h:(againB P nt ops o).run call tm hp nx K=.ok):K tm hp nx=.ok/\EFact P ops nt tm hp o:=by
 unfold againB at h
 cases hd:o.dst with
 | none =>
   rw [hd] at h
   obtain⟨h1,v,h2,h3⟩:=light_step hl h
   exact⟨h2,v,fun d e=>(by rw [hd] at e; cases e),h3⟩
 | some d =>
   rw [hd] at h
   obtain⟨h1,v,h2,h3⟩:=light_step hl h
   rw [hd] at h2
   have h2:(getS d).run (tm.put d v) (fun v=>(getS d).run tm fun u=>ifK (eqA v u) (K tm hp nx) (.bad 213))=.ok:=h2
   rw [getS_eq,getS_eq,Tm.at_put_same] at h2
   obtain⟨he,g3⟩:=ifK_ok h2
   have:=eqA_ok he
   exact⟨g3,v,fun d' e=>(by rw [hd] at e; cases e; exact⟨this.symm,h1 d hd⟩),h3⟩
theorem againAll_ok:∀(l:List Oper),(∀o∈l,lightK P o=true)->(againAll P nt ops l).run call tm hp nx K=.ok->K tm hp nx=.ok/\∀o∈l,EFact P ops nt tm hp o
 | [],_,h=>⟨h,fun o ho=>by simp at ho⟩
 | o::l,hl,h=>by
   obtain⟨h1,h2⟩:=again_ok (hl o (List.mem_cons_self ..)) (K:=fun tm hp nx=>(againAll P nt ops l).run call tm hp nx K) h
   obtain⟨h3,h4⟩:=againAll_ok l (fun o ho=>hl o (List.mem_cons_of_mem _ ho)) h1
   refine⟨h3,fun o' ho=>?_⟩
   rcases List.mem_cons.1 ho with rfl | ho
   · exact h2
   · exact h4 o' ho
end
theorem before_fold (R:Nat->Nat->Prop) (l:List Oper):∀(acc:Array Nat),(∀j i,bit acc j i=true->R j i) ->
  (∀o j,l[j]?=some o->∀e∈o.after,Region.binds .any e=true->R (acc.size+j) e.on/\∀i,R e.on i->R (acc.size+j) i) ->
  ∀j i,bit (l.foldl (fun acc o=>acc.push (o.after.foldl (fun s e=>if Region.binds .any e then s ||| 2 ^ e.on ||| acc.getD e.on 0 else s) 0)) acc) j i=true->R j i:=by
 induction l with
 | nil=>intro acc h _ j i hb; exact h j i hb
 | cons o l ih =>
   intro acc h hl j i hb
   refine ih _ (fun j i hb=>?_) (fun o' j' ho' e he hbi=>?_) j i hb
   · unfold bit at hb
     rw [Array.getD_eq_getD_getElem?,Array.getElem?_push] at hb
     by_cases hj:j=acc.size
     · rw [if_pos hj,Option.getD_some] at hb
       have hfold:∀(m:List Edge) (s:Nat),(∀i,s.testBit i=true->R acc.size i)->(∀e∈m,e∈o.after.toList)->∀i,(m.foldl (fun s e=>if Region.binds .any e then s ||| 2 ^ e.on ||| acc.getD e.on 0 else s) s).testBit i=true->R acc.size i:=by
        intro m
        induction m with
        | nil=>intro s hs _ i hi; exact hs i hi
        | cons e m ihm =>
          intro s hs hm i hi
          refine ihm _ (fun i hi=>?_) (fun e he=>hm e (List.mem_cons_of_mem _ he)) i hi
          simp only at hi
          by_cases hbe:Region.binds .any e=true
          · rw [if_pos hbe,Nat.testBit_or,Nat.testBit_or,Bool.or_eq_true,Bool.or_eq_true] at hi
            obtain⟨q1,q2⟩:=hl o 0 rfl e (by simpa using hm e (List.mem_cons_self ..)) hbe
            rw [Nat.add_zero] at q1 q2
            rcases hi with (hi | hi) | hi
            · exact hs i hi
            · rw [Nat.testBit_two_pow] at hi
              have:e.on=i:=by simpa using hi
              rw [<-this]; exact q1
            · exact q2 i (h _ _ hi)
          · rw [if_neg hbe] at hi; exact hs i hi
       rw [hj]
       rw [<-Array.foldl_toList] at hb
       exact hfold o.after.toList 0 (fun i hi=>by simp at hi) (fun e he=>he) i hb
     · rw [if_neg hj] at hb
       refine h j i ?_
       unfold bit
       rw [Array.getD_eq_getD_getElem?]
       exact hb
   · have:=hl o' (j'+1) (by simpa using ho') e he hbi
     rw [Array.size_push,show acc.size+1+j'=acc.size+(j'+1) by omega]
     exact this
theorem before_R {ops:Array Oper} (R:Nat->Nat->Prop) (h:∀o j,ops[j]?=some o->∀e∈o.after,Region.binds .any e=true->R j e.on/\∀i,R e.on i->R j i):∀j i,bit (Region.before ops) j i=true->R j i:=by
 intro j i hb
 unfold Region.before at hb
 rw [<-Array.foldl_toList] at hb
 refine before_fold R ops.toList #[] (fun j i hb=>by simp [bit] at hb) (fun o j ho e he hbi=>?_) j i hb
 have:=h o j (by simpa using ho) e he hbi
 simpa using this
theorem before_ok {ops:Array Oper} (L:Nat->Prop) (hL:∀i o,ops[i]?=some o->L i->∀e∈o.after,Region.binds .any e=true->L e.on):∀j i,L j->bit (Region.before ops) j i=true->L i:=by
 intro j i hj hb
 exact before_R (fun j i=>L j->L i) (fun o j ho e he hbi=>⟨fun h=>hL j o ho h e he hbi,fun i hi h=>hi (hL j o ho h e he hbi)⟩) j i hb hj
theorem before_lt {ops:Array Oper} (hlt:∀i o,ops[i]?=some o->∀e∈o.after,Region.binds .any e=true->e.on<i):∀j i,bit (Region.before ops) j i=true->i<j:=by
 intro j i hb
 exact before_R (fun j i=>i<j) (fun o j ho e he hbi=>⟨hlt j o ho e he hbi,fun i hi=>Nat.lt_trans hi (hlt j o ho e he hbi)⟩) j i hb
end Go.Rex
namespace Go.Rex
open Go.RowKit
structure Rg (P:Program) (ops:Array Oper) (E F H:List Nat):Prop where
 cov:∀i,i<ops.size->(i∈E/\i ∉ F/\i ∉ H)∨(i ∉ E/\i∈F/\i ∉ H)∨(i ∉ E/\i ∉ F/\i∈H)
 ltE:∀i∈E,i<ops.size
 ltF:∀i∈F,i<ops.size
 ltH:∀i∈H,i<ops.size
 edge:∀i o,ops[i]?=some o->∀e∈o.after,Region.binds .any e=true->e.on<i
 kE:∀i∈E,lightK P (opAt ops i)=true
 kF:∀i∈F,kindF P (opAt ops i)=true
 sel:∀i,i<ops.size->notSel (opAt ops i)=true
 ssa:∀i,i<ops.size->∀j,j∈E∨j∈F->(lk ops i j=true->bit (Region.before ops) i j=true)/\(i≠j->∀d,(opAt ops j).dst=some d->(opAt ops i).dst≠some d)
theorem at_of {ops:Array Oper} {i:Nat} (h:i<ops.size):ops[i]?=some (opAt ops i):=by
 unfold opAt
 rw [Array.getD_eq_getD_getElem?,Array.getElem?_eq_getElem h]; rfl
theorem lk_of {ops:Array Oper} {i j d:Nat} (hd:(opAt ops j).dst=some d) (h:d∈(opAt ops i).looksAt ops):lk ops i j=true:=by
 unfold lk
 rw [hd]
 simpa using h
theorem kindF_new {P:Program} {o:Oper} (h:kindF P o=true) (hp:pureK P o=false):newK P o=true/\o.guard=none/\∃d,o.dst=some d:=by
 unfold kindF at h
 rw [hp] at h
 simp only [Bool.false_or,Bool.and_eq_true] at h
 exact⟨h.1.1,by simpa using h.1.2,Option.isSome_iff_exists.1 h.2⟩
def Pend (P:Program) (ops:Array Oper) (B S:Nat->Prop) (β:Nat) (a:Act) (w:World) (o:Oper):Prop :=
 (pureK P o=true/\∃cv,(∀w1,Yv P ops o a w1 cv)/\∀d,o.dst=some d->tv a d=cv) ∨
 (pureK P o=false/\∃y d,S β/\¬B β/\w.heap[β]?=some y/\o.dst=some d/\∀w1:World,w1.heap.size=β->(execOp a.eval o).run P w1=.ok (.value (tv a d)) (w1.alloc y))
structure Sync (P:Program) (ops:Array Oper) (nt:Nat) (E F H CE CF CH:List Nat) (L:Nat->Prop) (B S:Nat->Prop) (w0:World) (tm:Tm) (hp:Tr AO) (nx:Pz) (ι:En) (β:Nat->Nat) (c a:Act) (w:World):Prop where
 down:∀i o,ops[i]?=some o->L i->∀e∈o.after,Region.binds .any e=true->L e.on
 inn:∀i,L i->i<ops.size
 hv:∀i∈H,(L i ↔ i∈CH)
 fl:∀i∈CF,L i
 el:∀i∈E,L i->i∈CE
 kept:Kept B w0 w
 sub:∀k,B k->S k
 sat:Sat S w nt tm hp nx ι c w
 pend:∀f∈F,L f->f ∉ CF->Pend P ops B S (β f) a w (opAt ops f)
 inj:∀f∈F,∀g∈F,L f->L g->f ∉ CF->g ∉ CF->pureK P (opAt ops f)=false->pureK P (opAt ops g)=false->β f=β g->f=g
 size:a.tmps.size=nt
 defers:a.defers=c.defers
 link:∀t,(∀i,i∈E∨i∈F->(opAt ops i).dst=some t->(L i ↔ (i∈CE∨i∈CF)))->tv a t=tv c t
section
variable {P:Program} {ops:Array Oper} {nt:Nat} {E F H:List Nat} {call:CallT} {L:Nat->Prop} {B S:Nat->Prop} {w0 w:World} {tm:Tm} {hp:Tr AO} {nx:Pz} {ι:En} {β:Nat->Nat} {c a:Act}
theorem Rg.he (hr:Rg P ops E F H) {i:Nat} (h:i∈H):i ∉ E/\i ∉ F:=by
 rcases hr.cov i (hr.ltH i h) with h' | h' | h'
 · exact absurd h h'.2.2
 · exact absurd h h'.2.2
 · exact⟨h'.1,h'.2.1⟩
theorem Rg.self (hr:Rg P ops E F H) {i d:Nat} (h:i∈E∨i∈F) (hd:(opAt ops i).dst=some d):d ∉ (opAt ops i).looksAt ops:=by
 intro hl
 have hlt:i<ops.size:=h.elim (hr.ltE i) (hr.ltF i)
 have:=before_lt hr.edge i i ((hr.ssa i hlt i h).1 (lk_of hd hl))
 omega
theorem tmps_put {ι':En} {v:AV} {cv:Value} {d:Option Tmp} (ht:TmpOk ι' nt tm c) (hd:∀t,d=some t->t<nt) (hv:cv=ren ι' v):TmpOk ι' nt (setD d tm v) (c.put d cv):=by
 cases d with
 | none=>exact ht
 | some t=>exact tmpOk_put ht (hd t rfl) hv
theorem tv_put_ne {a:Act} {d:Option Tmp} {v:Value} {t:Nat} (h:d≠some t):tv (a.put d v) t=tv a t:=by
 cases d with
 | none=>rfl
 | some d =>
   have hne:d≠t:=fun e=>h (by rw [e])
   unfold tv Act.put
   simp only [Array.getD_eq_getD_getElem?,Array.getElem?_setIfInBounds_ne hne]
theorem tv_put_eq {a:Act} {d:Nat} {v:Value} (h:d<a.tmps.size):tv (a.put (some d) v) d=v:=by rw [tv_put h,if_pos rfl]
theorem es_walk (hr:Rg P ops E F H) {CF CH:List Nat} {K:Tm->Tr AO->Pz->Rs}:∀(es CE G:List Nat) (tm:Tm) (c:Act),seqE ops E F CF es CE=true->Sync P ops nt E F H CE CF CH L B S w0 tm hp nx ι β c a w ->
  (regionB P nt ops (es.map (opAt ops))).run call tm hp nx K=.ok->(∀g∈G,g∈E/\g∈CE/\EFact P ops nt tm hp (opAt ops g)/\∀e∈E,lk ops g e=true->e∈CE) ->
  ∃tm' c',K tm' hp nx=.ok/\Sync P ops nt E F H (es.reverse++CE) CF CH L B S w0 tm' hp nx ι β c' a w/\∀g,g∈G∨g∈es->EFact P ops nt tm' hp (opAt ops g)
 | [],CE,G,tm,c,_,hs,h,hG=>⟨tm,c,h,hs,fun g hg=>by
   rcases hg with hg | hg
   · exact (hG g hg).2.2.1
   · simp at hg⟩
 | i::es,CE,G,tm,c,hq,hs,h,hG=>by
   simp only [seqE,Bool.and_eq_true,Bool.not_eq_true',List.all_eq_true,List.contains_iff_mem,Bool.or_eq_true] at hq
   obtain⟨⟨⟨⟨q1,q2⟩,q3⟩,q4⟩,q5⟩:=hq
   have q2:i ∉ CE:=by simpa using q2
   have hlt:=hr.ltE i q1
   have h:(stepB P nt ops (opAt ops i)).run call tm hp nx (fun tm hp nx=>(regionB P nt ops (es.map (opAt ops))).run call tm hp nx K)=.ok:=h
   obtain⟨hd,v,h,hv⟩:=light_step (hr.kE i q1) h
   have hLi:¬L i:=fun h'=>q2 (hs.el i q1 h')
   have hren:∀ι',Agree nx ι ι'->ren ι v=ren ι' v:=fun ι' hι=>by
    obtain⟨t1,c1⟩:=hs.sat.2 ι (Agree.refl _ _)
    obtain⟨t2,c2⟩:=hs.sat.2 ι' hι
    exact (hv _ _ ι c w t1 c1).det (hv _ _ ι' c w t2 c2)
   have hs1:Sync P ops nt E F H (i::CE) CF CH L B S w0 (setD (opAt ops i).dst tm v) hp nx ι β (c.put (opAt ops i).dst (ren ι v)) a w:=by
    refine⟨hs.down,hs.inn,hs.hv,hs.fl,fun j hj h'=>List.mem_cons_of_mem _ (hs.el j hj h'),hs.kept,hs.sub,⟨hs.sat.1,fun ι' hι=>⟨tmps_put (hs.sat.2 ι' hι).1 hd (hren ι' hι),(hs.sat.2 ι' hι).2⟩⟩,hs.pend,hs.inj,hs.size,(by rw [put_defers]; exact hs.defers),fun t ht=>?_⟩
    have hne:(opAt ops i).dst≠some t:=fun e=>hLi ((ht i (.inl q1) e).2 (.inl (List.mem_cons_self ..)))
    rw [tv_put_ne hne]
    refine hs.link t fun j hj hjd=>(ht j hj hjd).trans ?_
    have hji:j≠i:=fun e=>hne (e▸hjd)
    simp [hji]
   have hfact:∀g,g∈E->g≠i->(lk ops g i=true->i∈CE)->EFact P ops nt tm hp (opAt ops g)->EFact P ops nt (setD (opAt ops i).dst tm v) hp (opAt ops g):=by
    intro g hg hgi hlk ⟨u,h1,h2⟩
    refine⟨u,fun d hd'=>?_,LV.setD (hr.sel g (hr.ltE g hg)) hd (fun t ht hl=>q2 (hlk (lk_of ht hl))) h2⟩
    obtain⟨h3,h4⟩:=h1 d hd'
    refine⟨?_,h4⟩
    cases hdi:(opAt ops i).dst with
    | none=>exact h3
    | some t =>
      have hne:d≠t:=fun e=>(hr.ssa g (hr.ltE g hg) i (.inl q1)).2 hgi t hdi (e▸hd')
      show (tm.put t v).at d=u
      rw [Tm.at_put_ne hne,h3]
   have hnew:EFact P ops nt (setD (opAt ops i).dst tm v) hp (opAt ops i):=by
    refine⟨v,fun d hd'=>⟨?_,hd d hd'⟩,LV.setD (hr.sel i hlt) hd (fun t ht=>hr.self (.inl q1) ht) hv⟩
    rw [hd']
    exact Tm.at_put_same _ _ _
   obtain⟨tm',c',h1,h2,h3⟩:=es_walk hr es (i::CE) (i::G) _ _ q5 hs1 h (fun g hg=>by
    rcases List.mem_cons.1 hg with rfl | hg
    · exact⟨q1,List.mem_cons_self ..,hnew,fun e he hlk=>List.mem_cons_of_mem _ ((q4 e he).resolve_left (by simp [hlk]))⟩
    · obtain⟨g1,g2,g3,g4⟩:=hG g hg
      exact⟨g1,List.mem_cons_of_mem _ g2,hfact g g1 (fun e=>q2 (e▸g2)) (fun hl=>g4 i q1 hl) g3,fun e he hlk=>List.mem_cons_of_mem _ (g4 e he hlk)⟩)
   refine⟨tm',c',h1,by simpa using h2,fun g hg=>h3 g ?_⟩
   rcases hg with hg | hg
   · exact .inl (List.mem_cons_of_mem _ hg)
   · rcases List.mem_cons.1 hg with rfl | hg
     · exact .inl (List.mem_cons_self ..)
     · exact .inr hg
def FRes (P:Program) (ops:Array Oper) (a:Act) (o:Oper):Prop :=
 (pureK P o=true/\∃cv,∀w1,Yv P ops o a w1 cv) ∨
 (pureK P o=false/\o.guard=none/\∃d,o.dst=some d/\∀b,∃cv y,∀w1:World,w1.heap.size=b->(execOp a.eval o).run P w1=.ok (.value cv) (w1.alloc y))
theorem world_of (b:Nat):∃w1:World,w1.heap.size=b:=⟨{ (default:World) with heap:=Array.replicate b (.map #[] 0) },by simp⟩
theorem sp_walk (hr:Rg P ops E F H) {CE CF CH:List Nat} (hs:Sync P ops nt E F H CE CF CH L B S w0 tm hp nx ι β c a w) {r:Rs}:∀(sp CFs:List Nat) (tms:Tm) (hps:Tr AO) (nxs:Pz) (ιs:En) (cs:Act),seqF ops E F CE sp CFs=true->(∀i∈CF,i∈CFs) ->
  (regionB P nt ops (sp.map (opAt ops))).run call tms hps nxs (fun _ _ _=>r)=.ok->(∀ι',Agree nxs ιs ι'->TmpOk ι' nt tms cs) ->
  (∀t,(∀i,i∈E∨i∈F->(opAt ops i).dst=some t->(L i ↔ (i∈CE∨i∈CFs)))->tv a t=tv cs t) ->
  r=.ok/\∀f∈sp,(∀i,bit (Region.before ops) f i=true->L i)->FRes P ops a (opAt ops f)/\∀d,(opAt ops f).dst=some d->d<nt
 | [],CFs,tms,hps,nxs,ιs,cs,_,_,h,_,_=>⟨h,fun f hf=>by simp at hf⟩
 | f::sp,CFs,tms,hps,nxs,ιs,cs,hq,hsub,h,hfit,hlink=>by
   simp only [seqF,Bool.and_eq_true,Bool.not_eq_true',List.all_eq_true,List.contains_iff_mem,Bool.or_eq_true] at hq
   obtain⟨⟨⟨⟨q1,q2⟩,q3⟩,q4⟩,q5⟩:=hq
   have q2:f ∉ CFs:=by simpa using q2
   have hlt:=hr.ltF f q1
   have hsel:=hr.sel f hlt
   have hsame:(∀i,bit (Region.before ops) f i=true->L i)->∀t∈(opAt ops f).looksAt ops,tv a t=tv cs t:=by
    intro hpre t ht
    refine hlink t fun i hi hid=>?_
    have hl:=lk_of hid ht
    refine⟨fun _=>?_,fun _=>hpre i ((hr.ssa f hlt i hi).1 hl)⟩
    rcases hi with hi | hi
    · exact .inl ((q4 i hi).resolve_left (by simp [hl]))
    · exact .inr ((q3 i hi).resolve_left (by simp [hl]))
   have hpreL:L f->∀i,bit (Region.before ops) f i=true->L i:=fun hf i hb=>before_ok L hs.down f i hf hb
   have h:(stepB P nt ops (opAt ops f)).run call tms hps nxs (fun tm hp nx=>(regionB P nt ops (sp.map (opAt ops))).run call tm hp nx (fun _ _ _=>r))=.ok:=h
   have later:∀(cv:Value) (t:Nat),(∀d,(opAt ops f).dst=some d->d<nt)->(L f->∀d,(opAt ops f).dst=some d->tv a d=cv) ->
     (∀i,i∈E∨i∈F->(opAt ops i).dst=some t->(L i ↔ (i∈CE∨i∈f::CFs)))->tv a t=tv (cs.put (opAt ops f).dst cv) t:=by
    intro cv t hd hval ht
    by_cases hdt:(opAt ops f).dst=some t
    · have hLf:=(ht f (.inr q1) hdt).2 (.inr (List.mem_cons_self ..))
      rw [hval hLf t hdt,hdt,tv_put_eq]
      rw [(hfit ιs (Agree.refl _ _)).size]
      exact hd t hdt
    · rw [tv_put_ne hdt]
      refine hlink t fun i hi hid=>(ht i hi hid).trans ?_
      have:i≠f:=fun e=>hdt (e▸hid)
      simp [this]
   cases hk:pureK P (opAt ops f) with
   | true =>
     obtain⟨hd,v,h,hv⟩:=pure_step hk h
     have hy:∀ι',Agree nxs ιs ι'->∀w1,Yv P ops (opAt ops f) cs w1 (ren ι' v):=fun ι' hι w1=>hv _ _ ι' cs w1 (hfit ι' hι) (core_e ι' w1)
     have hya:(∀i,bit (Region.before ops) f i=true->L i)->∀w1,Yv P ops (opAt ops f) a w1 (ren ιs v):=fun hpre w1=>(hy ιs (Agree.refl _ _) w1).same hsel (fun t ht=>(hsame hpre t ht).symm)
     obtain⟨r1,r2⟩:=sp_walk hr hs sp (f::CFs) _ hps nxs ιs (cs.put (opAt ops f).dst (ren ιs v)) q5 (fun i hi=>List.mem_cons_of_mem _ (hsub i hi)) h
      (fun ι' hι=>tmps_put (hfit ι' hι) hd ((hy ιs (Agree.refl _ _) default).det (hy ι' hι default)))
      (fun t ht=>later _ t hd (fun hLf d hdd=>by
       rcases hs.pend f q1 hLf (fun hc=>q2 (hsub f hc)) with ⟨_,cv,p1,p2⟩ | ⟨p0,_⟩
       · rw [p2 d hdd]; exact (p1 default).det (hya (hpreL hLf) default)
       · rw [hk] at p0; cases p0) ht)
     refine⟨r1,fun g hg hpre=>?_⟩
     rcases List.mem_cons.1 hg with rfl | hg
     · exact⟨.inl ⟨hk,_,hya hpre⟩,hd⟩
     · exact r2 g hg hpre
   | false =>
     obtain⟨hn,hgd,d,hdd⟩:=kindF_new (hr.kF f q1) hk
     obtain⟨hd,v,x,h,hx⟩:=new_step hn hgd h
     have hrun:∀b,∃y,∀ι',Agree nxs.succ (ιs.at nxs b 0 0) ι'->∀w1:World,w1.heap.size=b->(execOp cs.eval (opAt ops f)).run P w1=.ok (.value (ren (ιs.at nxs b 0 0) v)) (w1.alloc y)/\ren ι' v=ren (ιs.at nxs b 0 0) v:=by
      intro b
      have hag:Agree nxs ιs (ιs.at nxs b 0 0):=agree_at ιs nxs b 0 0
      obtain⟨y,h1,h2⟩:=hx.2.2 (ιs.at nxs b 0 0) nt cs (hfit _ hag) (by simp [En.at])
      refine⟨y,fun ι' hι w1 hw1=>⟨h1 w1 (by simp [En.at,hw1]),?_⟩⟩
      obtain⟨ha,hb,hsh,_⟩:=agree_at' hι
      obtain⟨y',h3,h4⟩:=hx.2.2 ι' nt cs (hfit _ ha) hsh
      have e1:=h1 w1 (by simp [En.at,hw1])
      have e2:=h3 w1 (by rw [hb,hw1])
      rw [e1] at e2
      simp only [Result.ok.injEq,Next.value.injEq] at e2
      exact e2.1.symm
     obtain⟨b,hb⟩:∃b,b=β f:=⟨_,rfl⟩
     obtain⟨y,hy⟩:=hrun b
     obtain⟨w1,hw1⟩:=world_of b
     obtain⟨r1,r2⟩:=sp_walk hr hs sp (f::CFs) _ _ nxs.succ (ιs.at nxs b 0 0) (cs.put (opAt ops f).dst (ren (ιs.at nxs b 0 0) v)) q5 (fun i hi=>List.mem_cons_of_mem _ (hsub i hi)) h
      (fun ι' hι=>tmps_put (hfit ι' (agree_at' hι).1) hd (hy ι' hι w1 hw1).2.symm)
      (fun t ht=>later _ t hd (fun hLf d' hd'=>by
       rcases hs.pend f q1 hLf (fun hc=>q2 (hsub f hc)) with ⟨p0,_⟩ | ⟨_,y',d2,p1,p2,p3,p4,p5⟩
       · rw [hk] at p0; cases p0
       · rw [hd'] at p4
         cases p4
         have e1:=p5 w1 (by rw [hw1,hb])
         rw [exec_same hsel (hsame (hpreL hLf)),(hy _ (Agree.refl _ _) w1 hw1).1] at e1
         simp only [Result.ok.injEq,Next.value.injEq] at e1
         exact e1.1.symm) ht)
     refine⟨r1,fun g hg hpre=>?_⟩
     rcases List.mem_cons.1 hg with rfl | hg
     · refine⟨.inr ⟨hk,hgd,d,hdd,fun b'=>?_⟩,hd⟩
       obtain⟨y',hy'⟩:=hrun b'
       exact⟨_,y',fun w1 hw1=>by rw [exec_same hsel (hsame hpre)]; exact (hy' _ (Agree.refl _ _) w1 hw1).1⟩
     · exact r2 g hg hpre
end
end Go.Rex
namespace Go.Rex
open Go.RowKit
section
variable {P:Program} {ops:Array Oper} {nt:Nat} {E F H:List Nat} {call:CallT} {L:Nat->Prop} {B S:Nat->Prop} {w0 w:World} {tm:Tm} {hp:Tr AO} {nx:Pz} {ι:En} {β:Nat->Nat} {c a:Act}
theorem core_adopt {o:AO} {y:Obj} {b:Nat} (hw:Wf hp nx) (hc:Core S w0 ι hp w) (hb:ι.blk nx=b) (hS:S b) (ho:famOf o=none) (hx:∀e s,o≠.fam e s) (hob:ObjOk ι (hp.set nx o) w nx o) :
  Core (fun k=>S k/\k≠b) w0 ι (hp.set nx o) w:=by
 have hne:∀i p,hp.get i=some p->i≠nx:=fun i p hi e=>by have:=hw.lt _ _ hi; rw [e] at this; omega
 have hnb:∀i p,hp.get i=some p->own hp p->ι.blk i≠b:=fun i p hi hp' e=>hc.base _ _ hi hp' (e▸hS)
 refine⟨hc.below.mono fun k hk=>hk.1,fun k hk=>hc.room k hk.1,?_,?_,?_,?_⟩
 · intro i p hi
   rcases get_set_cases hi with ⟨rfl,rfl⟩ | ⟨hi',hi⟩
   · exact hob
   · exact (hc.obj _ _ hi).keep (own_new hw hx) fun _=>rfl
 · intro i p hi ho'
   rcases get_set_cases hi with ⟨rfl,_⟩ | ⟨hi',hi⟩
   · rw [hb]; exact fun h=>h.2 rfl
   · exact fun h=>hc.base _ _ hi (own_new hw hx ho') h.1
 · intro i i' p p' hii hi hi' ho1 ho2 e
   rcases get_set_cases hi with ⟨h1,h2⟩ | ⟨h1,g1⟩
   · rcases get_set_cases hi' with ⟨h3,_⟩ | ⟨h3,g3⟩
     · exact absurd (h1.trans h3.symm) hii
     · rw [h1,hb] at e
       exact absurd e.symm (hnb _ _ g3 (own_new hw hx ho2))
   · rcases get_set_cases hi' with ⟨h3,_⟩ | ⟨h3,g3⟩
     · rw [h3,hb] at e
       exact absurd e (hnb _ _ g1 (own_new hw hx ho1))
     · exact hc.sep _ _ _ _ hii g1 g3 (own_new hw hx ho1) (own_new hw hx ho2) e
 · intro i i' f e es n el c f' e' tp' es' n' el' c' hii h h' hl hl'
   rcases get_set_cases h with ⟨_,h⟩ | ⟨_,h⟩
   · rw [h] at ho; cases ho
   · rcases get_set_cases h' with ⟨_,h'⟩ | ⟨_,h'⟩
     · rw [h'] at ho; cases ho
     · exact hc.tip _ _ _ _ _ _ _ _ _ _ _ _ _ _ _ hii h h' (own_new (o:=.seg f e true es n el c) hw hx hl) (own_new (o:=.seg f' e' tp' es' n' el' c') hw hx hl')
theorem core_rebase {w1:World} (h:Core S w0 ι hp w):Core S w ι hp w:=⟨Kept.refl _ _,h.room,h.obj,h.base,h.sep,h.tip⟩
theorem fs_walk (hr:Rg P ops E F H) {CE CH:List Nat} {K:Tm->Tr AO->Pz->Rs}:∀(fs CF:List Nat) (tm:Tm) (hp:Tr AO) (nx:Pz) (ι:En) (S:Nat->Prop) (c:Act),seqF ops E F CE fs CF=true ->
  Sync P ops nt E F H CE CF CH L B S w0 tm hp nx ι β c a w->(∀f∈fs,L f)->(regionB P nt ops (fs.map (opAt ops))).run call tm hp nx K=.ok ->
  ∃tm' hp' nx' ι' S' c',K tm' hp' nx'=.ok/\nx.num<=nx'.num/\Agree nx ι ι'/\Sync P ops nt E F H CE (fs.reverse++CF) CH L B S' w0 tm' hp' nx' ι' β c' a w
 | [],CF,tm,hp,nx,ι,S,c,_,hs,_,h=>⟨tm,hp,nx,ι,S,c,h,Nat.le_refl _,Agree.refl _ _,hs⟩
 | f::fs,CF,tm,hp,nx,ι,S,c,hq,hs,hL,h=>by
   simp only [seqF,Bool.and_eq_true,Bool.not_eq_true',List.all_eq_true,List.contains_iff_mem,Bool.or_eq_true] at hq
   obtain⟨⟨⟨⟨q1,q2⟩,q3⟩,q4⟩,q5⟩:=hq
   have q2:f ∉ CF:=by simpa using q2
   have hlt:=hr.ltF f q1
   have hsel:=hr.sel f hlt
   have hLf:=hL f (List.mem_cons_self ..)
   have hpre:∀i,bit (Region.before ops) f i=true->L i:=fun i hb=>before_ok L hs.down f i hLf hb
   have hsame:∀t∈(opAt ops f).looksAt ops,tv a t=tv c t:=by
    intro t ht
    refine hs.link t fun i hi hid=>?_
    have hl:=lk_of hid ht
    refine⟨fun _=>?_,fun _=>hpre i ((hr.ssa f hlt i hi).1 hl)⟩
    rcases hi with hi | hi
    · exact .inl ((q4 i hi).resolve_left (by simp [hl]))
    · exact .inr ((q3 i hi).resolve_left (by simp [hl]))
   have h:(stepB P nt ops (opAt ops f)).run call tm hp nx (fun tm hp nx=>(regionB P nt ops (fs.map (opAt ops))).run call tm hp nx K)=.ok:=h
   have later:∀(cv:Value) (t:Nat),(∀d,(opAt ops f).dst=some d->d<nt)->(∀d,(opAt ops f).dst=some d->tv a d=cv) ->
     (∀i,i∈E∨i∈F->(opAt ops i).dst=some t->(L i ↔ (i∈CE∨i∈f::CF)))->tv a t=tv (c.put (opAt ops f).dst cv) t:=by
    intro cv t hd hval ht
    by_cases hdt:(opAt ops f).dst=some t
    · rw [hval t hdt,hdt,tv_put_eq]
      rw [(hs.sat.2 ι (Agree.refl _ _)).1.size]
      exact hd t hdt
    · rw [tv_put_ne hdt]
      refine hs.link t fun i hi hid=>(ht i hi hid).trans ?_
      have:i≠f:=fun e=>hdt (e▸hid)
      simp [this]
   have hfl:∀i∈f::CF,L i:=fun i hi=>by
    rcases List.mem_cons.1 hi with rfl | hi
    · exact hLf
    · exact hs.fl i hi
   have hnot:∀{g},g ∉ f::CF->g ∉ CF/\g≠f:=fun hg=>⟨fun h'=>hg (List.mem_cons_of_mem _ h'),fun e=>hg (e▸List.mem_cons_self ..)⟩
   cases hk:pureK P (opAt ops f) with
   | true =>
     obtain⟨hd,v,h,hv⟩:=pure_step hk h
     have hy:∀ι',Agree nx ι ι'->∀w1,Yv P ops (opAt ops f) c w1 (ren ι' v):=fun ι' hι w1=>hv _ _ ι' c w1 (hs.sat.2 ι' hι).1 (core_e ι' w1)
     have hval:∀d,(opAt ops f).dst=some d->tv a d=ren ι v:=fun d hdd=>by
      rcases hs.pend f q1 hLf q2 with ⟨_,cv,p1,p2⟩ | ⟨p0,_⟩
      · rw [p2 d hdd]; exact (p1 default).det ((hy ι (Agree.refl _ _) default).same hsel (fun t ht=>(hsame t ht).symm))
      · rw [hk] at p0; cases p0
     obtain⟨tm',hp',nx',ι',S',c',g1,g2,g3,g4⟩:=fs_walk hr fs (f::CF) _ hp nx ι S (c.put (opAt ops f).dst (ren ι v)) q5
      ⟨hs.down,hs.inn,hs.hv,hfl,hs.el,hs.kept,hs.sub,⟨hs.sat.1,fun ι' hι=>⟨tmps_put (hs.sat.2 ι' hι).1 hd ((hy ι (Agree.refl _ _) default).det (hy ι' hι default)),(hs.sat.2 ι' hι).2⟩⟩,
       fun g hg hLg hgc=>hs.pend g hg hLg (hnot hgc).1,fun g hg g' hg' l l' n n'=>hs.inj g hg g' hg' l l' (hnot n).1 (hnot n').1,hs.size,(by rw [put_defers]; exact hs.defers),fun t ht=>later _ t hd hval ht⟩
      (fun g hg=>hL g (List.mem_cons_of_mem _ hg)) h
     exact⟨tm',hp',nx',ι',S',c',g1,g2,g3,by simpa using g4⟩
   | false =>
     obtain⟨hn,hgd,d,hdd⟩:=kindF_new (hr.kF f q1) hk
     obtain⟨hd,v,x,h,hx⟩:=new_step hn hgd h
     rcases hs.pend f q1 hLf q2 with ⟨p0,_⟩ | ⟨_,y,d2,p1,p2,p3,p4,p5⟩
     · rw [hk] at p0; cases p0
     have hag:Agree nx ι (ι.at nx (β f) 0 0):=agree_at ι nx (β f) 0 0
     obtain⟨w1,hw1⟩:=world_of (β f)
     have key:∀ι',Agree nx.succ (ι.at nx (β f) 0 0) ι'->tv a d2=ren ι' v/\∀hp w',w'.heap[β f]?=some y->ObjOk ι' hp w' nx x:=by
      intro ι' hι
      obtain⟨ha,hb,hsh,_⟩:=agree_at' hι
      obtain⟨y',h3,h4⟩:=hx.2.2 ι' nt c (hs.sat.2 ι' ha).1 hsh
      have e1:=p5 w1 hw1
      have e2:=h3 w1 (by rw [hb,hw1])
      rw [exec_same hsel hsame,e2] at e1
      simp only [Result.ok.injEq,Next.value.injEq] at e1
      refine⟨e1.1.symm,fun hp w' hw'=>h4 hp w' ?_⟩
      rw [hb,hw']
      have e3:=congrArg (fun (u:World)=>u.heap[β f]?) e1.2
      rw [<-hw1,heap_alloc_at,heap_alloc_at] at e3
      exact e3.symm
     have hval:∀d',(opAt ops f).dst=some d'->tv a d'=ren (ι.at nx (β f) 0 0) v:=fun d' hd'=>by
      rw [p4] at hd'
      cases hd'
      exact (key _ (Agree.refl _ _)).1
     have hsub':∀k,B k->S k/\k≠β f:=fun k hk=>⟨hs.sub k hk,fun e=>p2 (e▸hk)⟩
     obtain⟨tm',hp',nx',ι',S',c',g1,g2,g3,g4⟩:=fs_walk hr fs (f::CF) _ (hp.set nx x) nx.succ (ι.at nx (β f) 0 0) (fun k=>S k/\k≠β f) (c.put (opAt ops f).dst (ren (ι.at nx (β f) 0 0) v)) q5
      ⟨hs.down,hs.inn,hs.hv,hfl,hs.el,hs.kept,hsub',⟨wf_new hs.sat.1 hx.1 hx.2.1,fun ι' hι=>by
        obtain⟨ha,hb,hsh,_⟩:=agree_at' hι
        obtain⟨k1,k2⟩:=key ι' hι
        refine⟨tmps_put (hs.sat.2 ι' ha).1 hd ?_,core_adopt (y:=y) hs.sat.1 (hs.sat.2 ι' ha).2 hb p1 hx.1 hx.2.1 (k2 _ _ p3)⟩
        rw [<-k1]
        exact (key _ (Agree.refl _ _)).1.symm⟩,
       fun g hg hLg hgc=>by
        obtain⟨n1,n2⟩:=hnot hgc
        rcases hs.pend g hg hLg n1 with hp' | ⟨r0,y',d',r1,r2,r3,r4,r5⟩
        · exact .inl hp'
        · exact .inr ⟨r0,y',d',⟨r1,fun e=>n2 (hs.inj g hg f q1 hLg hLf n1 q2 r0 hk e)⟩,r2,r3,r4,r5⟩,
       fun g hg g' hg' l l' n n'=>hs.inj g hg g' hg' l l' (hnot n).1 (hnot n').1,hs.size,(by rw [put_defers]; exact hs.defers),fun t ht=>later _ t hd hval ht⟩
      (fun g hg=>hL g (List.mem_cons_of_mem _ hg)) h
     exact⟨tm',hp',nx',ι',S',c',g1,by rw [Pz.num_succ] at g2; omega,hag.trans (agree_succ g3) (Nat.le_refl _),by simpa using g4⟩
end
end Go.Rex
namespace Go.Rex
open Go.RowKit
section
variable {P:Program}
mutual
theorem eqV_ok:∀(a b:AV),eqV a b=true->a=b
 | .bool a,b,h=>by
   cases b<;>simp [eqV] at h
   rw [h]
 | .int j a,b,h=>by
   cases b<;>simp [eqV] at h
   rw [h.1,h.2]
 | .str j a,b,h=>by
   cases b<;>simp only [eqV,Bool.and_eq_true,reduceCtorEq,Bool.false_eq_true] at h
   rw [beq_ok h.1,beq_ok h.2]
 | .float j a,b,h=>by
   cases b<;>simp only [eqV,Bool.and_eq_true,decide_eq_true_eq,reduceCtorEq,Bool.false_eq_true] at h
   rw [h.1,beq_ok h.2]
 | .ptr j a,b,h=>by
   cases b<;>simp only [eqV,Bool.and_eq_true,reduceCtorEq,Bool.false_eq_true] at h
   rw [pzEq_ok _ _ h.1,beq_ok h.2]
 | .nilp,b,h=>by
   cases b<;>simp [eqV] at h
   rfl
 | .slice p o l c,b,h=>by
   cases b<;>simp only [eqV,Bool.and_eq_true,reduceCtorEq,Bool.false_eq_true] at h
   rw [pzEq_ok _ _ h.1,beq_ok h.2.1,beq_ok h.2.2.1,beq_ok h.2.2.2]
 | .oslice p o l c,b,h=>by
   cases b<;>simp only [eqV,Bool.and_eq_true,reduceCtorEq,Bool.false_eq_true] at h
   rw [pzEq_ok _ _ h.1,beq_ok h.2.1,beq_ok h.2.2.1,beq_ok h.2.2.2]
 | .nils,b,h=>by
   cases b<;>simp [eqV] at h
   rfl
 | .map p,b,h=>by
   cases b<;>simp only [eqV,Bool.and_eq_true,reduceCtorEq,Bool.false_eq_true] at h
   rw [pzEq_ok _ _ h]
 | .nilmap,b,h=>by
   cases b<;>simp [eqV] at h
   rfl
 | .func f x y,b,h=>by
   cases b<;>simp only [eqV,Bool.and_eq_true,decide_eq_true_eq,reduceCtorEq,Bool.false_eq_true] at h
   rw [h.1,eqVL_ok _ _ h.2.1,eqVL_ok _ _ h.2.2]
 | .nilfunc,b,h=>by
   cases b<;>simp [eqV] at h
   rfl
 | .iface t v,b,h=>by
   cases b<;>simp only [eqV,Bool.and_eq_true,reduceCtorEq,Bool.false_eq_true] at h
   rw [beq_ok h.1,eqV_ok _ _ h.2]
 | .nilIface,b,h=>by
   cases b<;>simp [eqV] at h
   rfl
 | .agg xs,b,h=>by
   cases b<;>simp only [eqV,Bool.and_eq_true,reduceCtorEq,Bool.false_eq_true] at h
   rw [eqVL_ok _ _ h]
 | .tup xs,b,h=>by
   cases b<;>simp only [eqV,Bool.and_eq_true,reduceCtorEq,Bool.false_eq_true] at h
   rw [eqVL_ok _ _ h]
theorem eqVL_ok:∀(a b:List AV),eqVL a b=true->a=b
 | [],[],_=>rfl
 | x::xs,y::ys,h=>by
   simp only [eqVL,Bool.and_eq_true] at h
   rw [eqV_ok _ _ h.1,eqVL_ok _ _ h.2]
 | [],_::_,h=>by simp [eqVL] at h
 | _::_,[],h=>by simp [eqVL] at h
end
theorem eqT_ok:∀(a b:Tr (List AV)),eqT a b=true->a=b
 | .e,b,h=>by
   cases b with
   | e=>rfl
   | n l v r=>simp [eqT] at h
 | .n l none r,b,h=>by
   cases b with
   | e=>simp [eqT] at h
   | n l' v r' =>
     cases v with
     | some v=>simp [eqT] at h
     | none =>
       simp only [eqT,Bool.and_eq_true] at h
       rw [eqT_ok _ _ h.1,eqT_ok _ _ h.2]
 | .n l (some u) r,b,h=>by
   cases b with
   | e=>simp [eqT] at h
   | n l' v r' =>
     cases v with
     | none=>simp [eqT] at h
     | some v =>
       simp only [eqT,Bool.and_eq_true] at h
       rw [eqVL_ok _ _ h.1,eqT_ok _ _ h.2.1,eqT_ok _ _ h.2.2]
theorem eqE_ok:∀(a b:List ME),eqE a b=true->a=b
 | [],[],_=>rfl
 | ⟨a,b,c⟩::xs,⟨a',b',c'⟩::ys,h=>by
   simp only [eqE,Bool.and_eq_true] at h
   rw [eqV_ok _ _ h.1,eqV_ok _ _ h.2.1,beq_ok h.2.2.1,eqE_ok _ _ h.2.2.2]
 | [],_::_,h=>by simp [eqE] at h
 | _::_,[],h=>by simp [eqE] at h
theorem boolEq_ok {a b:Bool} (h:boolEq a b=true):a=b:=by cases a<;>cases b<;>first | rfl | cases h
theorem eqO_ok (a b:AO) (h:eqO a b=true):a=b:=by
 cases a<;>cases b<;>simp only [eqO,Bool.and_eq_true,reduceCtorEq,Bool.false_eq_true,decide_eq_true_eq] at h
 · rw [beq_ok h.1,beq_ok h.2.1,beq_ok h.2.2.1,eqT_ok _ _ h.2.2.2]
 · rw [pzEq_ok _ _ h.1,beq_ok h.2.1,boolEq_ok h.2.2.1,beq_ok h.2.2.2.1,beq_ok h.2.2.2.2.1,beq_ok h.2.2.2.2.2.1,eqT_ok _ _ h.2.2.2.2.2.2]
 · rw [beq_ok h.1,boolEq_ok h.2]
 · rw [beq_ok h.1,eqE_ok _ _ h.2]
 · rw [pzEq_ok _ _ h.1,beq_ok h.2.1,h.2.2.1,beq_ok h.2.2.2]
 · rfl
 · rfl
theorem subH_ok:∀(a b:Tr AO),subH a b=true->∀id o,a.get id=some o->b.get id=some o
 | .e,_,_,id,o,h=>by cases id<;>simp [Tr.get] at h
 | .n l none r,.e,h,id,o,hg=>by simp [subH] at h
 | .n l (some v) r,.e,h,id,o,hg=>by simp [subH] at h
 | .n l (some v) r,.n l' none r',h,id,o,hg=>by simp [subH] at h
 | .n l none r,.n l' v' r',h,id,o,hg=>by
   simp only [subH,Bool.and_eq_true] at h
   cases id with
   | h=>simp [Tr.get] at hg
   | o p=>exact subH_ok l l' h.1 p o hg
   | i p=>exact subH_ok r r' h.2 p o hg
 | .n l (some v) r,.n l' (some v') r',h,id,o,hg=>by
   simp only [subH,Bool.and_eq_true] at h
   cases id with
   | h=>simp only [Tr.get] at hg ⊢; rw [<-hg,eqO_ok _ _ h.1]
   | o p=>exact subH_ok l l' h.2.1 p o hg
   | i p=>exact subH_ok r r' h.2.2 p o hg
def Part (a b:Tr AO):Prop:=∀id o,a.get id=some o->b.get id=some o
theorem Part.live {a b:Tr AO} (h:Part a b) {f:Pz} {ep:Nat} (hl:live a f ep):live b f ep:=hl.imp fun _ hs=>h _ _ hs
theorem Part.own {a b:Tr AO} (h:Part a b) {o:AO} (hl:own a o):own b o:=by
 cases o with
 | seg=>exact h.live hl
 | fam=>exact hl
 | arr=>trivial
 | map=>trivial
 | iter=>trivial
 | loop=>trivial
 | dmark=>trivial
 | gone=>trivial
theorem core_part {B:Nat->Prop} {w0 w:World} {ι:En} {a b:Tr AO} (h:Part a b) (hc:Core B w0 ι b w):Core B w0 ι a w :=
 ⟨hc.below,hc.room,fun id o hid=>(hc.obj id o (h _ _ hid)).keep h.own (fun _=>rfl),fun id o hid ho=>hc.base id o (h _ _ hid) (h.own ho),
  fun id id' o o' hne hid hid' ho ho'=>hc.sep id id' o o' hne (h _ _ hid) (h _ _ hid') (h.own ho) (h.own ho'),
  fun id id' f ep es n el c f' ep' tp' es' n' el' c' hne hid hid' hl hl'=>hc.tip id id' f ep es n el c f' ep' tp' es' n' el' c' hne (h _ _ hid) (h _ _ hid') (h.live hl) (h.live hl')⟩
theorem wf_part {a b:Tr AO} {nx nx':Pz} (h:Part a b) (hle:nx.num<=nx'.num) (hw:Wf b nx):Wf a nx' :=
 ⟨fun id o hid=>Nat.lt_of_lt_of_le (hw.lt id o (h _ _ hid)) hle,fun id f ep tp es n el c hid=>Nat.lt_of_lt_of_le (hw.fam id f ep tp es n el c (h _ _ hid)) hle,
  fun id f ep tp es n el c e s hid hf=>hw.ep id f ep tp es n el c e s (h _ _ hid) (h _ _ hf),
  fun f e id id' tp es n el c tp' es' n' el' c' hf hid hid'=>hw.solo f e id id' tp es n el c tp' es' n' el' c' (h _ _ hf) (h _ _ hid) (h _ _ hid')⟩
theorem eqOct_ok {α:Type} {f:α->α->Bool} (hf:∀x y,f x y=true->x=y) {a b:Oct α} (h:eqOct f a b=true):a=b:=by
 obtain⟨a0,a1,a2,a3,a4,a5,a6,a7⟩:=a
 obtain⟨b0,b1,b2,b3,b4,b5,b6,b7⟩:=b
 simp only [eqOct,Bool.and_eq_true] at h
 obtain⟨h0,h1,h2,h3,h4,h5,h6,h7⟩:=h
 rw [hf _ _ h0,hf _ _ h1,hf _ _ h2,hf _ _ h3,hf _ _ h4,hf _ _ h5,hf _ _ h6,hf _ _ h7]
theorem eqTr_ok {α:Type} {f:α->α->Bool} (hf:∀x y,f x y=true->x=y):∀(a b:Tr α),eqTr f a b=true->a=b
 | .e,b,h=>by
   cases b with
   | e=>rfl
   | n l v r=>simp [eqTr] at h
 | .n l none r,b,h=>by
   cases b with
   | e=>simp [eqTr] at h
   | n l' v r' =>
     cases v with
     | some v=>simp [eqTr] at h
     | none =>
       simp only [eqTr,Bool.and_eq_true] at h
       rw [eqTr_ok hf _ _ h.1,eqTr_ok hf _ _ h.2]
 | .n l (some u) r,b,h=>by
   cases b with
   | e=>simp [eqTr] at h
   | n l' v r' =>
     cases v with
     | none=>simp [eqTr] at h
     | some v =>
       simp only [eqTr,Bool.and_eq_true] at h
       rw [hf _ _ h.1,eqTr_ok hf _ _ h.2.1,eqTr_ok hf _ _ h.2.2]
theorem eqPzL_ok:∀(a b:List Pz),eqPzL a b=true->a=b
 | [],[],_=>rfl
 | x::xs,y::ys,h=>by
   simp only [eqPzL,Bool.and_eq_true] at h
   rw [pzEq_ok _ _ h.1,eqPzL_ok _ _ h.2]
 | [],_::_,h=>by simp [eqPzL] at h
 | _::_,[],h=>by simp [eqPzL] at h
theorem eqTm_ok {a b:Tm} (h:eqTm a b=true):a=b:=by
 obtain⟨lo,hi,ml⟩:=a
 obtain⟨lo',hi',ml'⟩:=b
 simp only [eqTm,Bool.and_eq_true] at h
 rw [eqOct_ok (fun _ _ h=>eqOct_ok eqV_ok h) h.1,eqTr_ok eqV_ok _ _ h.2.1,eqPzL_ok _ _ h.2.2]
end
end Go.Rex
namespace Go.Rex
open Go.RowKit
section
variable {P:Program} {ops:Array Oper} {nt:Nat} {E F H:List Nat} {call:CallT} {L:Nat->Prop} {B S:Nat->Prop} {w0 w:World} {tm:Tm} {hp:Tr AO} {nx:Pz} {ι:En} {β:Nat->Nat} {c a:Act}
theorem seqE_mem {CF:List Nat}:∀(es CE:List Nat),seqE ops E F CF es CE=true->∀i∈es,i∈E/\∀f∈F,lk ops i f=true->f∈CF
 | [],_,_,i,hi=>by simp at hi
 | j::es,CE,hq,i,hi=>by
   simp only [seqE,Bool.and_eq_true,Bool.not_eq_true',List.all_eq_true,List.contains_iff_mem,Bool.or_eq_true] at hq
   obtain⟨⟨⟨⟨q1,q2⟩,q3⟩,q4⟩,q5⟩:=hq
   rcases List.mem_cons.1 hi with rfl | hi
   · exact⟨q1,fun f hf hl=>(q3 f hf).resolve_left (by simp [hl])⟩
   · exact seqE_mem es _ q5 i hi
theorem Pend.put {o:Oper} {β:Nat} {d:Option Tmp} {cv:Value} (hs:notSel o=true) (h1:∀t,d=some t->t ∉ o.looksAt ops) (h2:∀t,d=some t->o.dst≠some t) (h:Pend P ops B S β a w o):Pend P ops B S β (a.put d cv) w o:=by
 have hsame:∀t∈o.looksAt ops,tv a t=tv (a.put d cv) t:=fun t ht=>(tv_put_ne fun e=>h1 t e ht).symm
 have hval:∀t,o.dst=some t->tv (a.put d cv) t=tv a t:=fun t ht=>tv_put_ne fun e=>h2 t e ht
 rcases h with ⟨hk,v,g1,g2⟩ | ⟨hk,y,e,g1,g2,g3,g4,g5⟩
 · exact .inl ⟨hk,v,fun w1=>(g1 w1).same hs hsame,fun t ht=>by rw [hval t ht]; exact g2 t ht⟩
 · exact .inr ⟨hk,y,e,g1,g2,g3,g4,fun w1 hw1=>by rw [<-exec_same hs hsame,hval e g4]; exact g5 w1 hw1⟩
theorem Pend.world {o:Oper} {β:Nat} {w':World} {S':Nat->Prop} (hS:∀k,S k->S' k) (hw:S β->w'.heap[β]?=w.heap[β]?) (h:Pend P ops B S β a w o):Pend P ops B S' β a w' o:=by
 rcases h with h | ⟨hk,y,e,g1,g2,g3,g4,g5⟩
 · exact .inl h
 · exact .inr ⟨hk,y,e,hS _ g1,g2,by rw [hw g1]; exact g3,g4,g5⟩
structure Here (P:Program) (ops:Array Oper) (nt:Nat) (E F H:List Nat) (call:CallT) (X:List Nat) (K:Tm->Tr AO->Pz->Rs) (nx0:Pz) (ι0:En) (ph:Ph) (rest:List Ph) (CE CF CH:List Nat) (L:Nat->Prop) (B S:Nat->Prop) (w0:World) (tm:Tm) (hp:Tr AO) (nx:Pz) (ι:En) (β:Nat->Nat) (c a:Act) (w:World):Prop where
 sync:Sync P ops nt E F H CE CF CH L B S w0 tm hp nx ι β c a w
 le:nx0.num<=nx.num
 agr:Agree nx0 ι0 ι
 ce:∀i∈CE,i∈E
 ch:∀i∈CH,i∈H
 fact:∀i,i∈ph.es∨i∈ph.rs->i∈CE/\EFact P ops nt tm hp (opAt ops i)/\∀f∈F,lk ops i f=true->f∈CF
 covE:∀i∈E,i∈ph.es∨i∈ph.rs∨(∃h∈H,h ∉ CH/\bit (Region.before ops) i h=true)∨∃h∈CH,bit (Region.before ops) h i=true
 covF:∀f∈F,f∈CF∨f∈ph.sp∨∃h∈H,h ∉ CH/\bit (Region.before ops) f h=true
 sp:seqF ops E F CE ph.sp CF=true
 fs:seqF ops E F CE ph.fs CF=true
 run:(regionB P nt ops (ph.sp.map (opAt ops))).run call tm hp nx (fun _ _ _ =>
  (regionB P nt ops (ph.fs.map (opAt ops))).run call tm hp nx fun tm hp nx =>
  Option.rec (motive:=fun _=>Rs) (K tm hp nx) (fun h=>(stepB P nt ops (opAt ops h)).run call tm hp nx fun tm hp nx=>(drawB P nt ops rest).run call tm hp nx K) ph.h)=.ok
 tail:match ph.h with
  | some h=>h∈H/\h ∉ CH/\(∀h'∈H,h'∈CH∨h'=h∨bit (Region.before ops) h' h=true∨h'∈X)/\(∀f∈F,lk ops h f=true->f∈ph.fs.reverse++CF) /\
    (∀f∈F,f∈ph.fs.reverse++CF∨lk ops f h=false∨bit (Region.before ops) f h=true)/\(∀f∈ph.fs,bit (Region.before ops) h f=true)/\phsOk ops (Region.before ops) E F H rest CE (ph.fs.reverse++CF) (h::CH)=true
  | none=>(∀i∈E,i∈CE)/\(∀i∈F,i∈ph.fs.reverse++CF)/\∀i∈H,i∈CH
theorem enter_ph (hr:Rg P ops E F H) {X:List Nat} {K:Tm->Tr AO->Pz->Rs} {nx0:Pz} {ι0:En} {ph:Ph} {rest:List Ph} {CE CF CH:List Nat} (h2n:ph.h2=none) (hq:phsOk ops (Region.before ops) E F H (ph::rest) CE CF CH=true) (hs:Sync P ops nt E F H CE CF CH L B S w0 tm hp nx ι β c a w)
  (hle:nx0.num<=nx.num) (ha:Agree nx0 ι0 ι) (hce:∀i∈CE,i∈E) (hch:∀i∈CH,i∈H) (h:(drawB P nt ops (ph::rest)).run call tm hp nx K=.ok):∃tm' c',Here P ops nt E F H call X K nx0 ι0 ph rest (ph.es.reverse++CE) CF CH L B S w0 tm' hp nx ι β c' a w:=by
 simp only [phsOk,Bool.and_eq_true] at hq
 obtain⟨⟨⟨⟨⟨⟨q1,q2⟩,q3⟩,q4⟩,q5⟩,q6⟩,q7⟩:=hq
 have h:(regionB P nt ops (ph.es.map (opAt ops))).run call tm hp nx (fun tm hp nx =>
  (againAll P nt ops (ph.rs.map (opAt ops))).run call tm hp nx fun tm hp nx =>
  (regionB P nt ops (ph.sp.map (opAt ops))).run call tm hp nx fun _ _ _ =>
  (regionB P nt ops (ph.fs.map (opAt ops))).run call tm hp nx fun tm hp nx =>
  Option.rec (motive:=fun _=>Rs) (K tm hp nx) (fun h=>(stepB P nt ops (opAt ops h)).run call tm hp nx fun tm hp nx=>(drawB P nt ops rest).run call tm hp nx K) ph.h)=.ok:=by
  have h:(phB P nt ops ph (drawB P nt ops rest)).run call tm hp nx K=.ok:=h
  unfold phB at h
  rw [h2n] at h
  exact h
 obtain⟨tm',c',h,hs',hf⟩:=es_walk hr ph.es CE [] tm c q1 hs h (fun g hg=>by simp at hg)
 simp only [List.all_eq_true,Bool.and_eq_true,List.contains_iff_mem,Bool.or_eq_true,Bool.not_eq_true',List.any_eq_true] at q2 q3 q4
 have hes:=seqE_mem ph.es CE q1
 obtain⟨h,hrs⟩:=againAll_ok _ (fun o ho=>by
  obtain⟨i,hi,rfl⟩:=List.mem_map.1 ho
  exact hr.kE i (hce i (q2 i hi).1)) h
 refine⟨tm',c',hs',hle,ha,fun i hi=>?_,hch,fun i hi=>?_,fun i hi=>?_,fun f hf=>?_,q5,q6,h,?_⟩
 · rcases List.mem_append.1 hi with hi | hi
   · exact (hes i (List.mem_reverse.1 hi)).1
   · exact hce i hi
 · rcases hi with hi | hi
   · exact⟨List.mem_append_left _ (List.mem_reverse.2 hi),hf i (.inr hi),(hes i hi).2⟩
   · exact⟨List.mem_append_right _ (q2 i hi).1,hrs _ (List.mem_map.2 ⟨i,hi,rfl⟩),fun f hff hl=>((q2 i hi).2 f hff).resolve_left (by simp [hl])⟩
 · rcases q3 i hi with ((h1 | h1) | ⟨h1,h2,h3,h4⟩) | ⟨h1,h2,h3⟩
   · exact .inl h1
   · exact .inr (.inl h1)
   · exact .inr (.inr (.inl ⟨h1,h2,by simpa using h3,h4⟩))
   · exact .inr (.inr (.inr ⟨h1,h2,h3⟩))
 · rcases q4 f hf with (h1 | h1) | ⟨h1,h2,h3,h4⟩
   · exact .inl h1
   · exact .inr (.inl h1)
   · exact .inr (.inr ⟨h1,h2,by simpa using h3,h4⟩)
 · cases hh:ph.h with
   | none =>
     rw [hh,h2n] at q7
     simp only [List.all_eq_true,Bool.and_eq_true,List.contains_iff_mem] at q7
     exact⟨q7.1.1,q7.1.2,q7.2⟩
   | some h' =>
     rw [hh,h2n] at q7
     simp only [List.all_eq_true,Bool.and_eq_true,List.contains_iff_mem,Bool.or_eq_true,Bool.not_eq_true',beq_iff_eq] at q7
     obtain⟨⟨⟨⟨⟨⟨r1,r2⟩,r3⟩,r4⟩,r5⟩,r6⟩,r7⟩:=q7
     exact⟨r1,by simpa using r2,fun x hx=>(or_assoc.1 (r3 x hx)).imp_right fun h=>h.imp_right .inl,fun f hf hl=>(r4 f hf).resolve_left (by simp [hl]),fun f hf=>or_assoc.1 (r5 f hf),r6,r7⟩
def J (P:Program) (ops:Array Oper) (nt:Nat) (E F H:List Nat) (call:CallT) (B:Nat->Prop) (w0:World) (nx0:Pz) (ι0:En) (Z:Act->World->Prop) (L:Nat->Prop) (a:Act) (w:World):Prop :=
 (∃K,AfterS B w0 nt ι0 nx0 K Z/\∃ph rest CE CF CH S tm hp nx ι β c,Here P ops nt E F H call [] K nx0 ι0 ph rest CE CF CH L B S w0 tm hp nx ι β c a w) ∨
 (∃hA hB KA KB,hA≠hB/\AfterS B w0 nt ι0 nx0 KA Z/\AfterS B w0 nt ι0 nx0 KB Z /\
  (∃ph rest CE CF CH S tm hp nx ι β c,ph.h=some hA/\(∀f∈F,f∈CF)/\Here P ops nt E F H call [hB] KA nx0 ι0 ph rest CE CF CH L B S w0 tm hp nx ι β c a w) /\
  (∃ph rest CE CF CH S tm hp nx ι β c,ph.h=some hB/\(∀f∈F,f∈CF)/\Here P ops nt E F H call [hA] KB nx0 ι0 ph rest CE CF CH L B S w0 tm hp nx ι β c a w))
theorem step_store {o:Oper} (ho:storeO o=true) {k:Tm->Tr AO->Pz->Rs} (h:(stepB P nt ops o).run call tm hp nx k=.ok):∃hp',k tm hp' nx=.ok:=by
 unfold storeO at ho
 simp only [Bool.and_eq_true,Option.isNone_iff_eq_none] at ho
 obtain⟨h1,h2,h3⟩:=ho
 unfold stepB at h
 rw [h3] at h
 simp only at h
 unfold putB at h
 rw [h2] at h
 simp only at h
 cases hop:o.op with
 | store t x y =>
   unfold opB at h
   rw [hop] at h
   simp only at h
   cases hi:P.info? t with
   | none=>rw [hi] at h; cases h
   | some i =>
     rw [hi] at h
     simp only at h
     obtain⟨p,h,_⟩:=evB_ok h
     obtain⟨v,h,_⟩:=evB_ok h
     obtain⟨id,off,rfl,g⟩:=asPtr_ok h
     obtain⟨_,g⟩:=ifK_ok g
     obtain⟨hp',g,_⟩:=writeCells_ok g
     exact⟨hp',g⟩
 | _=>rw [hop] at h1; cases h1
theorem last_store {h:Nat} {rs:List Nat} (ho:storeO (opAt ops h)=true) (hk:∀i∈rs,lightK P (opAt ops i)=true) {K:Tm->Tr AO->Pz->Rs} (hr:(lastB P nt ops h rs).run call tm hp nx K=.ok):∃hp',K tm hp' nx=.ok:=by
 have hr:(againAll P nt ops (rs.map (opAt ops))).run call tm hp nx (fun tm hp nx=>(stepB P nt ops (opAt ops h)).run call tm hp nx fun tm hp nx=>K tm hp nx)=.ok:=hr
 obtain⟨hr,_⟩:=againAll_ok _ (fun o ho=>by
  obtain⟨i,hi,rfl⟩:=List.mem_map.1 ho
  exact hk i hi) hr
 exact step_store ho hr
theorem tail_phs {CE CF CH:List Nat} {h:Nat} {rs:List Nat} (ht:tailOk ops (Region.before ops) E F H h rs CE CF CH=true):phsOk ops (Region.before ops) E F H (lastPh h rs) CE CF CH=true/\(∀i∈rs,i∈CE)/\(∀f∈F,f∈CF):=by
 unfold tailOk at ht
 simp only [Bool.and_eq_true] at ht
 obtain⟨⟨⟨⟨⟨⟨q1,q2⟩,q3⟩,q4⟩,q5⟩,q6⟩,q7⟩:=ht
 refine⟨?_,fun i hi=>?_,fun f hf=>?_⟩
 · simp only [lastPh,phsOk,seqE,seqF,Bool.and_eq_true,Bool.true_and,List.all_nil,List.reverse_nil,List.nil_append,Bool.and_true]
   simp only [List.all_eq_true,Bool.and_eq_true,List.contains_iff_mem,Bool.or_eq_true,Bool.not_eq_true',beq_iff_eq,List.any_eq_true,List.contains_nil,Bool.false_or] at q1 q2 q3 q4 q5 q6 q7 ⊢
   refine⟨⟨⟨q1,fun i hi=>?_⟩,fun f hf=>.inl (.inl (q3 f hf))⟩,⟨⟨⟨q5,fun i hi=>?_⟩,fun f hf=>.inr (q3 f hf)⟩,fun f hf=>.inl (.inl (q3 f hf))⟩,⟨fun i hi=>.inr (q7 i hi),fun f hf=>.inl (.inl (q3 f hf))⟩,⟨q2,q3⟩,q4⟩
   · rcases q6 i hi with (h' | h') | h'
     · exact .inl (.inl h')
     · exact .inl (.inr ⟨h,q5.1,q5.2,h'⟩)
     · exact .inr h'
   · rcases List.mem_cons.1 (q4 i hi) with h' | h'
     · exact .inl (.inr h')
     · exact .inl (.inl h')
 · have:=(List.all_eq_true.1 q1) i hi
   rw [Bool.and_eq_true,List.contains_iff_mem] at this
   exact this.1
 · exact List.contains_iff_mem.1 ((List.all_eq_true.1 q3) f hf)
theorem enter_any (hr:Rg P ops E F H) {K:Tm->Tr AO->Pz->Rs} {nx0:Pz} {ι0:En} {Z:Act->World->Prop} (hn:AfterS B w0 nt ι0 nx0 K Z) {ph:Ph} {rest:List Ph} {CE CF CH:List Nat} (hq:phsOk ops (Region.before ops) E F H (ph::rest) CE CF CH=true) (hs:Sync P ops nt E F H CE CF CH L B S w0 tm hp nx ι β c a w)
  (hle:nx0.num<=nx.num) (ha:Agree nx0 ι0 ι) (hce:∀i∈CE,i∈E) (hch:∀i∈CH,i∈H) (h:(drawB P nt ops (ph::rest)).run call tm hp nx K=.ok):J P ops nt E F H call B w0 nx0 ι0 Z L a w:=by
 cases h2:ph.h2 with
 | none =>
   obtain⟨tm',c',hh⟩:=enter_ph hr (X:=[]) h2 hq hs hle ha hce hch h
   exact .inl ⟨K,hn,_,_,_,_,_,_,_,_,_,_,_,_,hh⟩
 | some q =>
   obtain⟨hB,rsA,rsB⟩:=q
   simp only [phsOk,Bool.and_eq_true] at hq
   obtain⟨⟨⟨⟨⟨⟨q1,q2⟩,q3⟩,q4⟩,q5⟩,q6⟩,q7⟩:=hq
   have h:(phB P nt ops ph (drawB P nt ops rest)).run call tm hp nx K=.ok:=h
   unfold phB at h
   rw [h2] at h
   simp only at h
   cases h1:ph.h with
   | none=>rw [h1] at h; cases h
   | some hA =>
     rw [h1] at h
     rw [h1,h2] at q7
     simp only [Bool.and_eq_true] at q7
     obtain⟨⟨⟨⟨⟨⟨⟨⟨⟨⟨⟨s1,s2⟩,s3⟩,⟨r1,r2⟩⟩,⟨r3,r4⟩⟩,r5⟩,r6⟩,r7⟩,r8⟩,r9⟩,r10⟩,r11⟩:=q7
     have h:(regionB P nt ops (ph.es.map (opAt ops))).run call tm hp nx (fun tm hp nx =>
      (againAll P nt ops (ph.rs.map (opAt ops))).run call tm hp nx fun tm hp nx=>forkB P nt ops hA hB rsA rsB call tm hp nx K)=.ok:=h
     obtain⟨tm',c',h,hs',hf⟩:=es_walk hr ph.es CE [] tm c q1 hs h (fun g hg=>by simp at hg)
     simp only [List.all_eq_true,Bool.and_eq_true,List.contains_iff_mem,Bool.or_eq_true,Bool.not_eq_true',List.any_eq_true] at q2 q3 q4
     have hes:=seqE_mem ph.es CE q1
     obtain⟨h,hrs⟩:=againAll_ok _ (fun o ho=>by
      obtain⟨i,hi,rfl⟩:=List.mem_map.1 ho
      exact hr.kE i (hce i (q2 i hi).1)) h
     have r1:=List.contains_iff_mem.1 r1
     have r3:=List.contains_iff_mem.1 r3
     have r2:hA ∉ CH:=fun hm=>by rw [List.contains_iff_mem.2 hm] at r2; cases r2
     have r4:hB ∉ CH:=fun hm=>by rw [List.contains_iff_mem.2 hm] at r4; cases r4
     have r5:hA≠hB:=fun e=>by rw [e] at r5; simp at r5
     have r7:∀f∈F,f∈CF:=fun f hf=>List.contains_iff_mem.1 ((List.all_eq_true.1 r7) f hf)
     have r6:∀h'∈H,h'∈CH∨h'=hA∨h'=hB:=fun h' hh'=>by
      have:=(List.all_eq_true.1 r6) h' hh'
      simp only [Bool.or_eq_true,beq_iff_eq,List.contains_iff_mem] at this
      exact or_assoc.1 this
     obtain⟨a1,a2,_⟩:=tail_phs r10
     obtain⟨b1,b2,_⟩:=tail_phs r11
     have hce':∀i∈ph.es.reverse++CE,i∈E:=fun i hi=>by
      rcases List.mem_append.1 hi with hi | hi
      · exact (hes i (List.mem_reverse.1 hi)).1
      · exact hce i hi
     have hfact:∀i,i∈ph.es∨i∈ph.rs->i∈ph.es.reverse++CE/\EFact P ops nt tm' hp (opAt ops i)/\∀f∈F,lk ops i f=true->f∈CF:=fun i hi=>by
      rcases hi with hi | hi
      · exact⟨List.mem_append_left _ (List.mem_reverse.2 hi),hf i (.inr hi),(hes i hi).2⟩
      · exact⟨List.mem_append_right _ (q2 i hi).1,hrs _ (List.mem_map.2 ⟨i,hi,rfl⟩),fun f hff hl=>((q2 i hi).2 f hff).resolve_left (by simp [hl])⟩
     have hcovE:∀i∈E,i∈ph.es∨i∈ph.rs∨(∃h∈H,h ∉ CH/\bit (Region.before ops) i h=true)∨∃h∈CH,bit (Region.before ops) h i=true:=fun i hi=>by
      rcases q3 i hi with ((h1 | h1) | ⟨h1,h2,h3,h4⟩) | ⟨h1,h2,h3⟩
      · exact .inl h1
      · exact .inr (.inl h1)
      · exact .inr (.inr (.inl ⟨h1,h2,by simpa using h3,h4⟩))
      · exact .inr (.inr (.inr ⟨h1,h2,h3⟩))
     have kA:∀i∈rsA,lightK P (opAt ops i)=true:=fun i hi=>hr.kE i (hce' i (a2 i hi))
     have kB:∀i∈rsB,lightK P (opAt ops i)=true:=fun i hi=>hr.kE i (hce' i (b2 i hi))
     -- the first order's run,and what it ends in
     have hA0:(stepB P nt ops (opAt ops hA)).run call tm' hp nx (fun tm1 hp1 nx1=>(lastB P nt ops hB rsA).run call tm1 hp1 nx1 (forkKA P nt ops hA hB rsB call tm' hp nx K))=.ok:=h
     obtain⟨hp1,g1⟩:=step_store r8 hA0
     obtain⟨hpA,g2⟩:=last_store r9 kA g1
     have hB0:(stepB P nt ops (opAt ops hB)).run call tm' hp nx (fun tm1 hp1 nx1=>(lastB P nt ops hA rsB).run call tm1 hp1 nx1 (forkKB K tm' hpA nx))=.ok:=g2
     have afA:AfterS B w0 nt ι0 nx0 (forkKA P nt ops hA hB rsB call tm' hp nx K) Z:=by
      intro tmx hpx nxx ι2 a' w' hk hle' ha' hs2
      have hk:(stepB P nt ops (opAt ops hB)).run call tm' hp nx (fun tm1 hp1 nx1=>(lastB P nt ops hA rsB).run call tm1 hp1 nx1 (forkKB K tmx hpx nxx))=.ok:=hk
      obtain⟨hp1,hk⟩:=step_store r9 hk
      obtain⟨hpB,hk⟩:=last_store r8 kB hk
      obtain⟨_,hk⟩:=ifK_ok hk
      obtain⟨_,hk⟩:=ifK_ok hk
      obtain⟨_,hk⟩:=ifK_ok hk
      exact hn tmx hpx nxx ι2 a' w' hk hle' ha' hs2
     have afB:AfterS B w0 nt ι0 nx0 (forkKB K tm' hpA nx) Z:=by
      intro tmx hpx nxx ι2 a' w' hk hle' ha' hs2
      obtain⟨e1,k1⟩:=ifK_ok hk
      obtain⟨e2,k2⟩:=ifK_ok k1
      obtain⟨e3,k3⟩:=ifK_ok k2
      have e1:=eqTm_ok e1
      have e2:=pzEq_ok _ _ e2
      have e3:Part hpA hpx:=subH_ok _ _ e3
      subst e1
      subst e2
      exact hn _ _ _ ι2 a' w' k3 hle' ha' ⟨wf_part e3 (Nat.le_refl _) hs2.1,fun ι' hι=>⟨(hs2.2 ι' hι).1,core_part e3 (hs2.2 ι' hι).2⟩⟩
     refine .inr ⟨hA,hB,_,_,r5,afA,afB,⟨⟨ph.es,ph.rs,[],[],some hA,none⟩,lastPh hB rsA,ph.es.reverse++CE,CF,CH,S,tm',hp,nx,ι,β,c',rfl,r7,?_⟩,⟨⟨ph.es,ph.rs,[],[],some hB,none⟩,lastPh hA rsB,ph.es.reverse++CE,CF,CH,S,tm',hp,nx,ι,β,c',rfl,r7,?_⟩⟩
     · exact⟨hs',hle,ha,hce',hch,hfact,hcovE,fun f hf=>.inl (r7 f hf),rfl,rfl,hA0,r1,r2,fun h' hh'=>(r6 h' hh').imp_right fun h=>h.imp_right fun e=>.inr (by simp [e]),fun f hf _=>r7 f hf,fun f hf=>.inl (r7 f hf),fun f hf=>by simp at hf,a1⟩
     · exact⟨hs',hle,ha,hce',hch,hfact,hcovE,fun f hf=>.inl (r7 f hf),rfl,rfl,hB0,r3,r4,fun h' hh'=>(r6 h' hh').imp_right fun h=>by
        rcases h with e | e
        · exact .inr (.inr (by simp [e]))
        · exact .inl e,fun f hf _=>r7 f hf,fun f hf=>.inl (r7 f hf),fun f hf=>by simp at hf,b1⟩
theorem sync_step (hr:Rg P ops E F H) {CE CF CH:List Nat} {i:Nat} {cv:Value} (hs:Sync P ops nt E F H CE CF CH L B S w0 tm hp nx ι β c a w) (hi:i<ops.size) (hL:¬L i) (hpre:∀e∈(opAt ops i).after,Region.binds .any e=true->L e.on)
  (hiH:i ∉ H) (hce:∀j∈CE,j∈E) (hiE:i∈E->i∈CE) {w':World} {S':Nat->Prop} {β':Nat->Nat} (hkept:Kept B w0 w') (hsub:∀k,B k->S' k) (hsat:Sat S' w' nt tm hp nx ι c w')
  (hpend:∀f∈F,L f->f ∉ CF->Pend P ops B S (β f) (a.put (opAt ops i).dst cv) w (opAt ops f)->Pend P ops B S' (β' f) (a.put (opAt ops i).dst cv) w' (opAt ops f)) (hnew:i∈F->Pend P ops B S' (β' i) (a.put (opAt ops i).dst cv) w' (opAt ops i))
  (hinj:∀f∈F,∀g∈F,(f=i∨L f)->(g=i∨L g)->f ∉ CF->g ∉ CF->pureK P (opAt ops f)=false->pureK P (opAt ops g)=false->β' f=β' g->f=g)
  (hlink:∀t,(opAt ops i).dst=some t->i∈E->cv=tv c t/\t<nt):Sync P ops nt E F H CE CF CH (fun j=>j=i∨L j) B S' w0 tm hp nx ι β' c (a.put (opAt ops i).dst cv) w':=by
 have hicf:i ∉ CF:=fun h=>hL (hs.fl i h)
 refine⟨fun j o ho hj e he hb=>?_,fun j hj=>?_,fun j hj=>?_,fun j hj=>.inr (hs.fl j hj),fun j hj hLj=>?_,hkept,hsub,hsat,fun f hf hLf hfc=>?_,hinj,by rw [put_size]; exact hs.size,by rw [put_defers]; exact hs.defers,fun t ht=>?_⟩
 · rcases hj with rfl | hj
   · rw [at_of hi] at ho
     cases ho
     exact .inr (hpre e he hb)
   · exact .inr (hs.down j o ho hj e he hb)
 · rcases hj with rfl | hj
   · exact hi
   · exact hs.inn j hj
 · rw [<-hs.hv j hj]
   have:j≠i:=fun e=>hiH (e▸hj)
   simp [this]
 · rcases hLj with rfl | hLj
   · exact hiE hj
   · exact hs.el j hj hLj
 · rcases hLf with rfl | hLf
   · exact hnew hf
   · have hfi:f≠i:=fun e=>hL (e▸hLf)
     refine hpend f hf hLf hfc ((hs.pend f hf hLf hfc).put (hr.sel f (hr.ltF f hf)) (fun t ht hl=>?_) (fun t ht e=>?_))
     · have hlk:=lk_of ht hl
       have hcase:i∈E∨i∈F:=by
        rcases hr.cov i hi with h | h | h
        · exact .inl h.1
        · exact .inr h.2.1
        · exact absurd h.2.2 hiH
       exact hL (before_ok L hs.down f i hLf ((hr.ssa f (hr.ltF f hf) i hcase).1 hlk))
     · exact (hr.ssa i hi f (.inr hf)).2 (fun e=>hfi e.symm) t e ht
 · by_cases hd:(opAt ops i).dst=some t
   · rcases hr.cov i hi with h | h | h
     · obtain⟨h1,h2⟩:=hlink t hd h.1
       rw [hd,tv_put_eq (by rw [hs.size]; exact h2),h1]
     · exfalso
       rcases (ht i (.inr h.2.1) hd).1 (.inl rfl) with h' | h'
       · exact h.1 (hce i h')
       · exact hicf h'
     · exact absurd h.2.2 hiH
   · rw [tv_put_ne hd]
     refine hs.link t fun j hj hjd=>?_
     have:=ht j hj hjd
     have hji:j≠i:=fun e=>hd (e▸hjd)
     simpa [hji] using this
theorem set_L {listed:Array Bool} {i j:Nat} (h:i<listed.size):((listed.setIfInBounds i true).getD j false=true)=(j=i∨listed.getD j false=true):=by
 apply propext
 simp only [Array.getD_eq_getD_getElem?,Array.getElem?_setIfInBounds]
 by_cases hj:i=j
 · subst hj; simp [h]
 · rw [if_neg hj]
   have hj':¬j=i:=fun e=>hj e.symm
   simp [hj']
theorem heavy_next {r:Option Nat} (hr:Rg P ops E F H) {X:List Nat} {K:Tm->Tr AO->Pz->Rs} {nx0:Pz} {ι0:En} {ph:Ph} {rest:List Ph} {CE CF CH:List Nat} {i:Nat} (hh:Here P ops nt E F H call X K nx0 ι0 ph rest CE CF CH L B S w0 tm hp nx ι β c a w) (hops:OpsOk P call)
  (hi:i<ops.size) (hL:¬L i) (hpre:∀e∈(opAt ops i).after,Region.binds .any e=true->L e.on) (hiH:i∈H) (hiX:i ∉ X) {Z:Act->World->Prop} {Q:Exit->Act->World->Prop} {Zn:Act->World->Prop} (hn:AfterS B w0 nt ι0 nx0 K Zn)
  (hZ:∀a' w',J P ops nt E F H call B w0 nx0 ι0 Zn (fun j=>j=i∨L j) a' w'->Z a' w'):wpOpIn (fw r) 0 P ops Q i Z a w:=by
 have hs:=hh.sync
 have hpreL:∀j,bit (Region.before ops) i j=true->L j:=fun j hb=>by
  have:=before_ok (fun k=>k=i∨L k) (fun k o ho hk e he hbi=>by
   rcases hk with rfl | hk
   · rw [at_of hi] at ho; cases ho; exact .inr (hpre e he hbi)
   · exact .inr (hs.down k o ho hk e he hbi)) i j (.inl rfl) hb
  rcases this with rfl | h
  · have:=before_lt hr.edge _ _ hb; omega
  · exact h
 obtain⟨hrun,_⟩:=sp_walk hr hs ph.sp CF tm hp nx ι c hh.sp (fun _ h=>h) hh.run (fun ι' hι=>(hs.sat.2 ι' hι).1) hs.link
 have htail:=hh.tail
 cases hph:ph.h with
 | none =>
   rw [hph] at htail
   exact absurd ((hs.hv i hiH).2 (htail.2.2 i hiH)) hL
 | some h =>
   rw [hph] at htail
   simp only [hph] at hrun
   obtain⟨t1,t2,t3,t4,t5,t6,t7⟩:=htail
   have hih:i=h:=by
    rcases t3 i hiH with h' | h' | h'
    · exact absurd ((hs.hv i hiH).2 h') hL
    · exact h'
    · exact (h'.elim (fun h'=>absurd ((hs.hv h t1).1 (hpreL h h')) t2) (fun h'=>absurd h' hiX))
   subst hih
   obtain⟨tm1,hp1,nx1,ι1,S1,c1,g1,g2,g3,hs1⟩:=fs_walk hr ph.fs CF tm hp nx ι S c hh.fs hs (fun f hf=>hpreL f (t6 f hf)) hrun
   have hsame:∀t∈(opAt ops i).looksAt ops,tv a t=tv c1 t:=by
    intro t ht
    refine hs1.link t fun j hj hjd=>?_
    have hl:=lk_of hjd ht
    have hLj:=hpreL j ((hr.ssa i hi j hj).1 hl)
    refine⟨fun _=>?_,fun _=>hLj⟩
    rcases hj with hj | hj
    · exact .inl (hs.el j hj hLj)
    · exact .inr (t4 j hj hl)
   have hsel:=hr.sel i hi
   have fin:∀cv w',(∃v hp' nx' ι2,(drawB P nt ops rest).run call (setD (opAt ops i).dst tm1 v) hp' nx' K=.ok/\nx1.num<=nx'.num/\Agree nx1 ι1 ι2/\Wf hp' nx'/\∀ι',Agree nx' ι2 ι'->Core S1 w ι' hp' w'/\cv=ren ι' v)->(∀t,(opAt ops i).dst=some t->t<nt)->Z (a.put (opAt ops i).dst cv) w':=by
    rintro cv w' ⟨v,hp',nx',ι2,k1,k2,k3,k4,k5⟩ hd
    refine hZ _ _ ?_
    have hkept1:Kept S1 w w':=(k5 ι2 (Agree.refl _ _)).1.below
    have hs2:Sync P ops nt E F H CE (ph.fs.reverse++CF) (i::CH) (fun j=>j=i∨L j) B S1 w0 (setD (opAt ops i).dst tm1 v) hp' nx' ι2 β (c1.put (opAt ops i).dst cv) (a.put (opAt ops i).dst cv) w':=by
     refine⟨fun j o ho hj e he hb=>?_,fun j hj=>?_,fun j hj=>?_,fun j hj=>.inr (hs1.fl j hj),fun j hj hLj=>?_,hs1.kept.trans (hkept1.mono hs1.sub),hs1.sub,⟨k4,fun ι' hι=>⟨tmps_put (hs1.sat.2 ι' (k3.trans hι k2)).1 hd (k5 ι' hι).2,core_rebase (w1:=w') (k5 ι' hι).1⟩⟩,
      fun f hf hLf hfc=>?_,fun f hf g hg lf lg=>?_,by rw [put_size]; exact hs.size,by rw [put_defers,put_defers]; exact hs1.defers,fun t ht=>?_⟩
     · rcases hj with rfl | hj
       · rw [at_of hi] at ho; cases ho; exact .inr (hpre e he hb)
       · exact .inr (hs.down j o ho hj e he hb)
     · rcases hj with rfl | hj
       · exact hi
       · exact hs.inn j hj
     · simp only [List.mem_cons]
       rw [hs.hv j hj]
     · rcases hLj with rfl | hLj
       · exact absurd hj (hr.he hiH).1
       · exact hs.el j hj hLj
     · have hfi:f≠i:=fun e=>(hr.he hiH).2 (e▸hf)
       have hLf:L f:=hLf.resolve_left hfi
       refine ((hs1.pend f hf hLf hfc).put (hr.sel f (hr.ltF f hf)) (fun t ht hl=>?_) (fun t ht e=>(hr.ssa i hi f (.inr hf)).2 (fun e=>hfi e.symm) t e ht)).world (fun _ h=>h) (fun h=>hkept1.block _ h)
       have hlk:=lk_of ht hl
       rcases t5 f hf with h' | h' | h'
       · exact hfc h'
       · rw [hlk] at h'; cases h'
       · exact hL (before_ok L hs.down f i hLf h')
     · have hfi:f≠i:=fun e=>(hr.he hiH).2 (e▸hf)
       have hgi:g≠i:=fun e=>(hr.he hiH).2 (e▸hg)
       exact hs1.inj f hf g hg (lf.resolve_left hfi) (lg.resolve_left hgi)
     · by_cases hdt:(opAt ops i).dst=some t
       · rw [hdt,tv_put_eq (by rw [hs.size]; exact hd t hdt),tv_put_eq (by rw [(hs1.sat.2 ι1 (Agree.refl _ _)).1.size]; exact hd t hdt)]
       · rw [tv_put_ne hdt,tv_put_ne hdt]
         refine hs1.link t fun j hj hjd=>?_
         have:=ht j hj hjd
         have hji:j≠i:=fun e=>hdt (e▸hjd)
         simpa [hji] using this
    cases rest with
    | nil=>cases t7
    | cons ph' rest' =>
      exact enter_any hr (nx0:=nx0) (ι0:=ι0) hn t7 hs2 (by have:=hh.le; omega) (hh.agr.trans (g3.trans k3 g2) hh.le) hh.ce (fun j hj=>by
       rcases List.mem_cons.1 hj with rfl | hj
       · exact hiH
       · exact hh.ch j hj) k1
   obtain⟨hd,hgo⟩:=heavy_step hops g1 hs1.sat (G:=fun cv w'=>∃v hp' nx' ι2,(drawB P nt ops rest).run call (setD (opAt ops i).dst tm1 v) hp' nx' K=.ok/\nx1.num<=nx'.num/\Agree nx1 ι1 ι2/\Wf hp' nx'/\∀ι',Agree nx' ι2 ι'->Core S1 w ι' hp' w'/\cv=ren ι' v)
    (fun cv w' v hp' nx' ι2 r1 r2 r3 r4 r5=>⟨v,hp',nx',ι2,r1,r2,r3,r4,r5⟩)
   unfold wpOpIn
   rw [at_of hi]
   simp only
   rw [wanted_same hsame]
   rcases hgo with ⟨hw,hg⟩ | ⟨hw,hg⟩
   · rw [if_pos hw]
     rw [<-exec_same hsel hsame] at hg
     exact hg.wp fun cv w' h=>fin cv w' h hd
   · rw [if_neg (by rw [hw]; decide)]
     exact⟨fun _ _=>trivial,fin undef w hg hd⟩
theorem end_ok (hr:Rg P ops E F H) {X:List Nat} {K:Tm->Tr AO->Pz->Rs} {nx0:Pz} {ι0:En} {ph:Ph} {rest:List Ph} {CE CF CH:List Nat} (hh:Here P ops nt E F H call X K nx0 ι0 ph rest CE CF CH L B S w0 tm hp nx ι β c a w) (hall:∀i,i<ops.size->L i) {Z:Act->World->Prop} (hn:AfterS B w0 nt ι0 nx0 K Z):Z a w:=by
 have hs:=hh.sync
 obtain⟨hrun,_⟩:=sp_walk hr hs ph.sp CF tm hp nx ι c hh.sp (fun _ h=>h) hh.run (fun ι' hι=>(hs.sat.2 ι' hι).1) hs.link
 have htail:=hh.tail
 cases hph:ph.h with
 | some h =>
   rw [hph] at htail
   exact absurd ((hs.hv h htail.1).1 (hall h (hr.ltH h htail.1))) htail.2.1
 | none =>
   rw [hph] at htail
   simp only [hph] at hrun
   obtain⟨t1,t2,t3⟩:=htail
   obtain⟨tm1,hp1,nx1,ι1,S1,c1,g1,g2,g3,hs1⟩:=fs_walk hr ph.fs CF tm hp nx ι S c hh.fs hs (fun f hf=>hall f (hr.ltF f (by
    have:=hh.fs
    have key:∀(fs CF:List Nat),seqF ops E F CE fs CF=true->∀f∈fs,f∈F:=by
     intro fs
     induction fs with
     | nil=>intro CF _ f hf; simp at hf
     | cons g fs ih =>
       intro CF hq f hf
       simp only [seqF,Bool.and_eq_true,List.contains_iff_mem] at hq
       rcases List.mem_cons.1 hf with rfl | hf
       · exact hq.1.1.1.1
       · exact ih _ hq.2 f hf
    exact key _ _ this f hf))) hrun
   have hac:a=c1:=by
    obtain⟨ta,da⟩:=a
    obtain⟨tc,dc⟩:=c1
    have e1:ta.size=nt:=hs.size
    have e2:=(hs1.sat.2 ι1 (Agree.refl _ _)).1
    have e3:tc.size=nt:=e2.size
    have e4:da=dc:=hs1.defers
    have:ta=tc:=by
     apply Array.ext
     · rw [e1,e3]
     · intro t h1 h2
       have:=hs1.link t fun i hi hid=>by
        rcases hi with hi | hi
        · exact⟨fun _=>.inl (t1 i hi),fun _=>hall i (hr.ltE i hi)⟩
        · exact⟨fun _=>.inr (t2 i hi),fun _=>hall i (hr.ltF i hi)⟩
       simp only [tv,Array.getD_eq_getD_getElem?,Array.getElem?_eq_getElem h1,Array.getElem?_eq_getElem h2,Option.getD_some] at this
       exact this
    rw [this,e4]
   refine hn tm1 hp1 nx1 ι1 a w g1 (by have:=hh.le; omega) (hh.agr.trans g3 hh.le) ⟨hs1.sat.1,fun ι' hι=>⟨hac▸(hs1.sat.2 ι' hι).1,?_⟩⟩
   have hc:=(hs1.sat.2 ι' hι).2
   exact⟨hs1.kept,fun k hk=>hc.room k (hs1.sub k hk),hc.obj,fun id o h1 h2 h3=>hc.base id o h1 h2 (hs1.sub _ h3),hc.sep,hc.tip⟩
theorem core_more (h:Core S w ι hp w) (y:Obj):Core (fun k=>S k∨k=w.heap.size) (w.alloc y) ι hp (w.alloc y):=by
 have hlt:=core_lt h
 refine⟨Kept.refl _ _,fun k hk=>?_,fun i o hi=>?_,fun i o hi ho hk=>?_,h.sep,h.tip⟩
 · have hsz:(w.alloc y).heap.size=w.heap.size+1:=by simp
   rcases hk with hk | rfl
   · have:=h.room k hk; omega
   · omega
 · exact (h.obj i o hi).keep (fun x=>x) fun ho=>Below.heap_alloc _ _ _ (hlt i o hi ho)
 · rcases hk with hk | hk
   · exact h.base i o hi ho hk
   · have:=hlt i o hi ho; omega
theorem pre_L (hr:Rg P ops E F H) {CE CF CH:List Nat} {i:Nat} (hs:Sync P ops nt E F H CE CF CH L B S w0 tm hp nx ι β c a w) (hlt:i<ops.size) (hpre:∀e∈(opAt ops i).after,Region.binds .any e=true->L e.on):∀j,bit (Region.before ops) i j=true->L j:=fun j hb=>by
 have:=before_ok (fun k=>k=i∨L k) (fun k o' ho' hk e he hbi=>by
  rcases hk with hk | hk
  · subst hk
    have e0:=at_of hlt
    rw [ho'] at e0
    have e1:=Option.some.inj e0
    subst e1
    exact .inr (hpre e he hbi)
  · exact .inr (hs.down k o' ho' hk e he hbi)) i j (.inl rfl) hb
 rcases this with rfl | h
 · have:=before_lt hr.edge _ _ hb; omega
 · exact h
theorem e_step (hr:Rg P ops E F H) {X:List Nat} {K:Tm->Tr AO->Pz->Rs} {nx0:Pz} {ι0:En} {ph:Ph} {rest:List Ph} {CE CF CH:List Nat} {i:Nat} (hh:Here P ops nt E F H call X K nx0 ι0 ph rest CE CF CH L B S w0 tm hp nx ι β c a w)
  (hlt:i<ops.size) (hLi:¬L i) (hpre:∀e∈(opAt ops i).after,Region.binds .any e=true->L e.on) (hE:i∈E) (hnF:i ∉ F) (hnH:i ∉ H) :
  ∃cv,Yv P ops (opAt ops i) a w cv/\Here P ops nt E F H call X K nx0 ι0 ph rest CE CF CH (fun j=>j=i∨L j) B S w0 tm hp nx ι β c (a.put (opAt ops i).dst cv) w:=by
 have hs:=hh.sync
 have hpreL:=pre_L hr hs hlt hpre
 have hin:i∈ph.es∨i∈ph.rs:=by
  rcases hh.covE i hE with h | h | ⟨h,h2,h3,h4⟩ | ⟨h,h2,h3⟩
  · exact .inl h
  · exact .inr h
  · exact absurd ((hs.hv h h2).1 (hpreL h h4)) h3
  · exact absurd (before_ok _ hs.down h i ((hs.hv h (hh.ch h h2)).2 h2) h3) hLi
 obtain⟨hce,⟨v,hv1,hv2⟩,hff⟩:=hh.fact i hin
 obtain⟨tc,cc⟩:=hs.sat.2 ι (Agree.refl _ _)
 have hsame:∀t∈(opAt ops i).looksAt ops,tv c t=tv a t:=by
  intro t ht
  refine (hs.link t fun j hj hjd=>?_).symm
  have hl:=lk_of hjd ht
  have hLj:=hpreL j ((hr.ssa i hlt j hj).1 hl)
  refine⟨fun _=>?_,fun _=>hLj⟩
  rcases hj with hj | hj
  · exact .inl (hs.el j hj hLj)
  · exact .inr (hff j hj hl)
 have hy:=(hv2 _ _ ι c w tc cc).same (hr.sel i hlt) hsame
 refine⟨_,hy,?_⟩
 refine⟨sync_step hr hs hlt hLi hpre hnH hh.ce (fun _=>hce) hs.kept hs.sub hs.sat (fun f _ _ _ h=>h) (fun h=>absurd h hnF) (fun f hf g hg lf lg=>hs.inj f hf g hg (lf.resolve_left fun e=>hnF (e▸hf)) (lg.resolve_left fun e=>hnF (e▸hg))) (fun t ht _=>?_),
  hh.le,hh.agr,hh.ce,hh.ch,hh.fact,hh.covE,hh.covF,hh.sp,hh.fs,hh.run,hh.tail⟩
 obtain⟨h2,h3⟩:=hv1 t ht
 refine⟨?_,h3⟩
 have:=tc.val t
 rw [h2] at this
 exact this.symm
theorem one_step {r:Option Nat} (hr:Rg P ops E F H) (hops:OpsOk P call) {K:Tm->Tr AO->Pz->Rs} {nx0:Pz} {ι0:En} {Q:Exit->Act->World->Prop} {Z Zn:Act->World->Prop} (hn:AfterS B w0 nt ι0 nx0 K Zn) {ph:Ph} {rest:List Ph} {CE CF CH:List Nat} {i:Nat}
  (hh:Here P ops nt E F H call [] K nx0 ι0 ph rest CE CF CH L B S w0 tm hp nx ι β c a w) (hlt:i<ops.size) (hLi:¬L i) (hpre:∀e∈(opAt ops i).after,Region.binds .any e=true->L e.on) (ho:ops[i]?=some (opAt ops i))
  (next:∀a' w',J P ops nt E F H call B w0 nx0 ι0 Zn (fun j=>j=i∨L j) a' w'->Z a' w'):wpOpIn (fw r) 0 P ops Q i Z a w:=by
  have hs:=hh.sync
  have hpreL:=pre_L hr hs hlt hpre
  rcases hr.cov i hlt with ⟨hE,hnF,hnH⟩ | ⟨hnE,hF,hnH⟩ | ⟨hnE,hnF,hH⟩
  · -- early
    obtain⟨cv,hy,h1⟩:=e_step hr hh hlt hLi hpre hE hnF hnH
    exact hy.wp ho (next _ _ (.inl ⟨K,hn,ph,rest,CE,CF,CH,S,tm,hp,nx,ι,β,c,h1⟩))
  · -- floating
    have hin:i∈ph.sp:=by
     rcases hh.covF i hF with h | h | ⟨h,h2,h3,h4⟩
     · exact absurd (hs.fl i h) hLi
     · exact h
     · exact absurd ((hs.hv h h2).1 (hpreL h h4)) h3
    obtain⟨_,hres⟩:=sp_walk hr hs ph.sp CF tm hp nx ι c hh.sp (fun _ h=>h) hh.run (fun ι' hι=>(hs.sat.2 ι' hι).1) hs.link
    obtain⟨hres,hd⟩:=hres i hin hpreL
    have hself:∀cv,∀t∈(opAt ops i).looksAt ops,tv a t=tv (a.put (opAt ops i).dst cv) t:=fun cv t ht=>(tv_put_ne fun e=>hr.self (.inr hF) e ht).symm
    have hval:∀cv d,(opAt ops i).dst=some d->tv (a.put (opAt ops i).dst cv) d=cv:=fun cv d hdd=>by
     rw [hdd]; exact tv_put_eq (by rw [hs.size]; exact hd d hdd)
    rcases hres with ⟨hk,cv,hy⟩ | ⟨hk,hg,d,hdd,hy⟩
    · refine (hy w).wp ho (next _ _ (.inl ⟨K,hn,ph,rest,CE,CF,CH,S,tm,hp,nx,ι,β,c,?_⟩))
      refine⟨sync_step hr hs hlt hLi hpre hnH hh.ce (fun h=>absurd h hnE) hs.kept hs.sub hs.sat (fun f _ _ _ h=>h) (fun _=>.inl ⟨hk,cv,fun w1=>(hy w1).same (hr.sel i hlt) (hself cv),fun d hdd=>hval cv d hdd⟩) (fun f hf g hg lf lg nf ng kf kg=>?_) (fun t ht h=>absurd h hnE),
       hh.le,hh.agr,hh.ce,hh.ch,hh.fact,hh.covE,hh.covF,hh.sp,hh.fs,hh.run,hh.tail⟩
      exact hs.inj f hf g hg (lf.resolve_left fun e=>by rw [e,hk] at kf; cases kf) (lg.resolve_left fun e=>by rw [e,hk] at kg; cases kg) nf ng kf kg
    · obtain⟨cv,y,hrun⟩:=hy w.heap.size
      have hroom:∀k,S k->k<w.heap.size:=(hs.sat.2 ι (Agree.refl _ _)).2.room
      unfold wpOpIn
      rw [ho]
      simp only
      rw [if_pos (by simp [Region.wanted,hg])]
      refine Gives.wp (G:=fun cv' w'=>cv'=cv/\w'=w.alloc y) (.inl ⟨cv,_,.inl (hrun w rfl),rfl,rfl⟩) fun cv' w' ⟨e1,e2⟩=>?_
      rw [e1,e2]
      refine next _ _ (.inl ⟨K,hn,ph,rest,CE,CF,CH,(fun k=>S k∨k=w.heap.size),tm,hp,nx,ι,(fun j=>if j=i then w.heap.size else β j),c,?_⟩)
      refine⟨sync_step hr hs hlt hLi hpre hnH hh.ce (fun h=>absurd h hnE) (hs.kept.alloc (fun k hk=>hroom k (hs.sub k hk)) y) (fun k hk=>.inl (hs.sub k hk)) ⟨hs.sat.1,fun ι' hι=>⟨(hs.sat.2 ι' hι).1,core_more (hs.sat.2 ι' hι).2 y⟩⟩ (fun f hf hLf hfc hp'=>?_) (fun _=>?_) (fun f hf g hg lf lg nf ng kf kg=>?_) (fun t ht h=>absurd h hnE),
       hh.le,hh.agr,hh.ce,hh.ch,hh.fact,hh.covE,hh.covF,hh.sp,hh.fs,hh.run,hh.tail⟩
      · have hfi:f≠i:=fun e=>hLi (e▸hLf)
        simp only [if_neg hfi]
        exact hp'.world (fun k hk=>.inl hk) (fun h=>Below.heap_alloc _ _ _ (hroom _ h))
      · simp only [if_true]
        refine .inr ⟨hk,y,d,.inr rfl,fun h=>?_,heap_alloc_at _ _,hdd,fun w1 hw1=>?_⟩
        · have:=hroom _ (hs.sub _ h); omega
        · rw [<-exec_same (hr.sel i hlt) (hself cv),hval cv d hdd]
          exact hrun w1 hw1
      · have pb:∀f∈F,L f->f ∉ CF->pureK P (opAt ops f)=false->β f<w.heap.size:=by
         intro f hf lf nf kf
         rcases hs.pend f hf lf nf with ⟨p0,_⟩ | ⟨_,_,_,p1,_⟩
         · rw [kf] at p0; cases p0
         · exact hroom _ p1
        by_cases hfi:f=i
        · by_cases hgi:g=i
          · exact fun _=>hfi.trans hgi.symm
          · simp only [if_pos hfi,if_neg hgi]
            intro e
            have:=pb g hg (lg.resolve_left hgi) ng kg
            omega
        · by_cases hgi:g=i
          · simp only [if_neg hfi,if_pos hgi]
            intro e
            have:=pb f hf (lf.resolve_left hfi) nf kf
            omega
          · simp only [if_neg hfi,if_neg hgi]
            exact hs.inj f hf g hg (lf.resolve_left hfi) (lg.resolve_left hgi) nf ng kf kg
  · -- heavy
    exact heavy_next hr hh hops hlt hLi hpre hH (by simp) hn next
theorem any_ok {r:Option Nat} (hr:Rg P ops E F H) (hops:OpsOk P call) {nx0:Pz} {ι0:En} {Q:Exit->Act->World->Prop}:∀(fuel:Nat) (listed:Array Bool) (a:Act) (w:World),listed.size=ops.size->listed.toList.count false<=fuel ->
  J P ops nt E F H call B w0 nx0 ι0 (Q .normal) (fun i=>listed.getD i false=true) a w->wpAnyIn (fw r) 0 P .any ops Q fuel listed a w:=by
 have endq:∀(listed:Array Bool) (a:Act) (w:World),listed.size=ops.size->J P ops nt E F H call B w0 nx0 ι0 (Q .normal) (fun i=>listed.getD i false=true) a w->Region.ready .any ops listed=[]->Q .normal a w:=by
  intro listed a w hsz hj hrd
  have hedge:=hr.edge
  have all:∀i,i<ops.size->listed.getD i false=true:=by
   intro i hi
   induction i using Nat.strongRecOn with
   | ind i ih =>
     rcases Bool.eq_false_or_eq_true (listed.getD i false) with h | h
     · exact h
     · exfalso
       have hmem:i∈Region.ready .any ops listed:=by
        rw [mem_ready]
        refine⟨?_,opAt ops i,at_of hi,fun e he hb=>ih e.on (hr.edge i _ (at_of hi) e he hb) (by have:=hr.edge i _ (at_of hi) e he hb; omega)⟩
        rw [Array.getD_eq_getD_getElem?,Array.getElem?_eq_getElem (by omega)] at h ⊢
        exact h
       rw [hrd] at hmem
       simp at hmem
  rcases hj with ⟨K,hn,ph,rest,CE,CF,CH,S,tm,hp,nx,ι,β,c,hh⟩ | ⟨hA,hB,KA,KB,hne,afA,afB,⟨ph,rest,CE,CF,CH,S,tm,hp,nx,ι,β,c,_,_,hh⟩,_⟩
  · exact end_ok hr hh all hn
  · exact end_ok hr hh all afA
 intro fuel
 induction fuel with
 | zero =>
   intro listed a w hsz hc hh
   have hrd:Region.ready .any ops listed=[]:=by
    apply List.eq_nil_iff_forall_not_mem.2
    intro j hj
    rw [mem_ready] at hj
    obtain⟨h1,_⟩:=hj
    have hlt:j<listed.size:=by
     rcases Nat.lt_or_ge j listed.size with h | h
     · exact h
     · rw [Array.getD_eq_getD_getElem?,Array.getElem?_eq_none h] at h1; cases h1
    have:false∈listed.toList:=by
     rw [Array.getD_eq_getD_getElem?,Array.getElem?_eq_getElem hlt] at h1
     simp only [Option.getD_some] at h1
     rw [<-h1]
     exact Array.getElem_mem_toList hlt
    have:=List.count_pos_iff.2 this
    omega
   exact⟨hrd,endq listed a w hsz hh hrd⟩
 | succ fuel ih =>
   intro listed a w hsz hc hh
   refine⟨endq listed a w hsz hh,fun i hi=>?_⟩
   rw [mem_ready] at hi
   obtain⟨h1,o,ho,hpre⟩:=hi
   have hlt:i<ops.size:=(Array.getElem?_eq_some_iff.1 ho).1
   have hio:o=opAt ops i:=by have:=at_of hlt; rw [ho] at this; exact Option.some.inj this
   subst hio
   have hlt':i<listed.size:=by omega
   have hLi:¬listed.getD i false=true:=by
    rw [Array.getD_eq_getD_getElem?,Array.getElem?_eq_getElem hlt'] at h1 ⊢
    simp only [Option.getD_some] at h1 ⊢
    rw [h1]; decide
   have hcount:(listed.setIfInBounds i true).toList.count false<=fuel:=by
    have hf:listed.toList[i]'(by simpa using hlt')=false:=by
     rw [Array.getD_eq_getD_getElem?,Array.getElem?_eq_getElem hlt'] at h1
     simpa using h1
    have h2:(listed.toList.set i true).count false=listed.toList.count false-1:=by
     rw [List.count_set (by simpa using hlt')]
     simp [hf]
    have h3:0<listed.toList.count false:=List.count_pos_iff.2 (by rw [<-hf]; exact List.getElem_mem _)
    rw [Array.toList_setIfInBounds,h2]
    omega
   have hsz':(listed.setIfInBounds i true).size=ops.size:=by simpa using hsz
   have next:∀a' w',J P ops nt E F H call B w0 nx0 ι0 (Q .normal) (fun j=>j=i∨listed.getD j false=true) a' w'->wpAnyIn (fw r) 0 P .any ops Q fuel (listed.setIfInBounds i true) a' w':=by
    intro a' w' h
    refine ih _ a' w' hsz' hcount ?_
    have e:(fun j=>(listed.setIfInBounds i true).getD j false=true)=fun j=>j=i∨listed.getD j false=true:=funext fun j=>set_L hlt'
    rw [e]
    exact h
   rcases hh with ⟨K,hn,ph,rest,CE,CF,CH,S,tm,hp,nx,ι,β,c,hh⟩ | ⟨hA,hB,KA,KB,hne,afA,afB,⟨phA,restA,CEA,CFA,CHA,SA,tmA,hpA,nxA,ιA,βA,cA,eA,fA,hhA⟩,⟨phB,restB,CEB,CFB,CHB,SB,tmB,hpB,nxB,ιB,βB,cB,eB,fB,hhB⟩⟩
   · exact one_step hr hops hn hh hlt hLi hpre ho next
   · rcases hr.cov i hlt with ⟨hE,hnF,hnH⟩ | ⟨hnE,hF,hnH⟩ | ⟨hnE,hnF,hH⟩
     · obtain⟨cv,hy,h1⟩:=e_step hr hhA hlt hLi hpre hE hnF hnH
       obtain⟨cv',hy',h2⟩:=e_step hr hhB hlt hLi hpre hE hnF hnH
       have e:=hy.det hy'
       subst e
       exact hy.wp ho (next _ _ (.inr ⟨hA,hB,KA,KB,hne,afA,afB,⟨_,_,_,_,_,_,_,_,_,_,_,_,eA,fA,h1⟩,⟨_,_,_,_,_,_,_,_,_,_,_,_,eB,fB,h2⟩⟩))
     · exact absurd (hhA.sync.fl i (fA i hF)) hLi
     · by_cases hx:i=hB
       · refine heavy_next hr hhB hops hlt hLi hpre hH (by rw [hx]; simpa using fun e=>hne e.symm) afB next
       · exact heavy_next hr hhA hops hlt hLi hpre hH (by simpa using hx) afA next
theorem draw_ok (hm:P.follows .mixedOrders=true) (hops:OpsOk P call) (nt:Nat):DrawOk P call nt:=by
 intro id ops plan tm hp nx K hg h r B w0 w ι a hs Q hn
 unfold planGood at hg
 cases plan with
 | nil=>cases h
 | cons ph rest =>
   have hg:planOk P ops (ph::rest)=true:=by simpa using hg
   unfold planOk at hg
   simp only [Bool.and_eq_true,List.all_eq_true,List.mem_range,Bool.or_eq_true,Bool.not_eq_true',decide_eq_true_eq,List.contains_iff_mem] at hg
   obtain⟨⟨⟨⟨⟨⟨⟨⟨⟨h1,h2⟩,h3⟩,h4⟩,h5⟩,h6⟩,h7⟩,h8⟩,h9⟩,h10⟩:=hg
   have hr:Rg P ops ((ph::rest).flatMap (·.es)) ((ph::rest).flatMap (·.fs)) ((ph::rest).flatMap hsOf):=by
    refine⟨fun i hi=>?_,h2,h3,h4,fun i o ho e he hb=>?_,h6,h7,h8,fun i hi j hj=>?_⟩
    · have:=h1 i hi
      simp only [<-Bool.not_eq_true,List.contains_iff_mem] at this
      rcases this with (⟨⟨p1,p2⟩,p3⟩ | ⟨⟨p1,p2⟩,p3⟩) | ⟨⟨p1,p2⟩,p3⟩
      · exact .inl ⟨p1,p2,p3⟩
      · exact .inr (.inl ⟨p1,p2,p3⟩)
      · exact .inr (.inr ⟨p1,p2,p3⟩)
    · have hi:i<ops.size:=(Array.getElem?_eq_some_iff.1 ho).1
      have hio:=at_of hi
      rw [ho] at hio
      have:=Option.some.inj hio
      subst this
      exact (h5 i hi e (by simpa using he)).resolve_left (by rw [hb]; decide)
    · have:=h9 i hi j (List.mem_append.2 hj)
      refine⟨fun hl=>this.1.resolve_left (by rw [hl]; decide),fun hne d hd hd'=>?_⟩
      rcases this.2 with (h' | h') | h'
      · exact hne (by simpa using h')
      · rw [hd] at h'; cases h'
      · rw [hd,hd'] at h'; simp at h'
   refine wpIn_region_any hm ?_
   have hs0:Sync P ops nt ((ph::rest).flatMap (·.es)) ((ph::rest).flatMap (·.fs)) ((ph::rest).flatMap hsOf) [] [] [] (fun i=>(Array.replicate ops.size false).getD i false=true) B B w0 tm hp nx ι (fun _=>0) a a w.drew:=by
    have no:∀i,¬(Array.replicate ops.size false).getD i false=true:=by
     intro i hi
     rw [Array.getD_eq_getD_getElem?,Array.getElem?_replicate] at hi
     split at hi<;>cases hi
    obtain⟨t0,c0⟩:=hs.2 ι (Agree.refl _ _)
    exact⟨fun i o _ hi=>absurd hi (no i),fun i hi=>absurd hi (no i),fun i _=>⟨fun hi=>absurd hi (no i),fun hi=>by simp at hi⟩,fun i hi=>by simp at hi,fun i _ hi=>absurd hi (no i),c0.below.drew,fun k hk=>hk,
     ⟨hs.1,fun ι' hι=>⟨(hs.2 ι' hι).1,core_rebase (w1:=w.drew) (core_drew (hs.2 ι' hι).2)⟩⟩,fun f _ hf=>absurd hf (no f),fun f _ g _ hf=>absurd hf (no f),t0.size,rfl,fun t _=>rfl⟩
   exact any_ok hr hops ops.size _ a w.drew (by simp) (by simp) (enter_any hr (nx0:=nx) (ι0:=ι) hn h10 hs0 (Nat.le_refl _) (Agree.refl _ _) (fun i hi=>by simp at hi) (fun i hi=>by simp at hi) h)
end
end Go.Rex
namespace Go.Rex
open Go.RowKit
section
variable {P:Program}
theorem Agree.le {nx nx':Pz} {ι ι':En} (h:Agree nx' ι ι') (hle:nx.num<=nx'.num):Agree nx ι ι':=fun id hid=>h id (Nat.lt_of_lt_of_le hid hle)
def Ran (P:Program) (f:Nat) (args:List AV) (pre:Tr AO) (nx:Pz) (v:AV) (post:Tr AO) (nx':Pz):Prop :=
 ∀B w0 w ι (cargs:Array Value),Wf pre nx->(∀ι',Agree nx ι ι'->Core B w0 ι' pre w/\cargs=(renL ι' args).toArray) ->
  Gives P (callFunc f cargs) w fun cv w'=>∃ι2,Wf post nx'/\nx.num<=nx'.num/\Agree nx ι ι2/\∀ι',Agree nx' ι2 ι'->Core B w0 ι' post w'/\cv=ren ι' v
theorem pzNum_eq (p:Pz):pzNum p=p.num:=by
 induction p with
 | h=>rfl
 | o p ih=>show 2*pzNum p=2*p.num; rw [ih]
 | i p ih=>show 2*pzNum p+1=2*p.num+1; rw [ih]
noncomputable def seeK (v:AV) (post:Tr AO) (nx':Pz) (v':AV) (hp':Tr AO) (nx2:Pz):Rs :=
 ifK (eqV v v') (ifK (Nat.ble (pzNum nx2) (pzNum nx')) (ifK (subH post hp') .ok (.bad 242)) (.bad 241)) (.bad 240)
theorem ran_of {call:CallT} (hcall:CallOk P call) {f:Nat} {args:List AV} {pre post:Tr AO} {nx nx':Pz} {v:AV} (h:call.run f args pre nx (seeK v post nx')=.ok):Ran P f args pre nx v post nx':=by
 intro B w0 w ι cargs hw hc
 refine hcall.1 f args pre nx _ h B w0 w ι cargs hw hc _ (fun v' hp' nx2 ι2 cv w' hk hw' hle ha hcc=>?_)
 obtain⟨h1,hk⟩:=ifK_ok hk
 obtain⟨h2,hk⟩:=ifK_ok hk
 obtain⟨h3,hk⟩:=ifK_ok hk
 have h1:=eqV_ok _ _ h1
 have h2:=ble_ok h2
 rw [pzNum_eq,pzNum_eq] at h2
 have h3:Part post hp':=subH_ok _ _ h3
 subst h1
 exact⟨ι2,wf_part h3 h2 hw',Nat.le_trans hle h2,ha,fun ι' hι=>⟨core_part h3 (hcc ι' (hι.le h2)).1,(hcc ι' (hι.le h2)).2⟩⟩
def lone?:AO->Bool
 | .arr _ _ _ _=>true
 | .map _ _=>true
 | _=>false
noncomputable def noneK (t:Tr AO) (id:Pz) (r:Rs):Rs:=match t.get id with | none=>r | some _=>.bad 243
noncomputable def keepK (pre hp:Tr AO) (ids:List Pz):Tr AO->(Tr AO->Rs)->Rs :=
 List.rec (motive:=fun _=>Tr AO->(Tr AO->Rs)->Rs) (fun post k=>k post)
  (fun id _ ih post k=>hp.getK id (.bad 244) fun o=>ifK (lone? o) (noneK pre id (noneK post id (post.setK id o fun post=>ih post k))) (.bad 245)) ids
structure Memo where
 args:List AV
 pre:Tr AO
 nx:Pz
 v:AV
 post:Tr AO
 nx':Pz
 keep:List Pz
def plainV:AV->Bool
 | .bool _=>true
 | .int _ _=>true
 | .str _ _=>true
 | _=>false
theorem plainV_ok {v:AV} (h:plainV v=true) (ι ι':En):ren ι v=ren ι' v:=by
 cases v<;>simp [plainV] at h<;>simp [ren]
def isE:Tr AO->Bool
 | .e=>true
 | _=>false
theorem isE_ok {t:Tr AO} (h:isE t=true):t=.e:=by cases t<;>simp [isE] at h; rfl
theorem core_nil {B:Nat->Prop} {w0 w:World} {ι:En} (h:Core B w0 ι .e w) (ι':En):Core B w0 ι' .e w:=by
 refine⟨h.below,h.room,?_,?_,?_,?_⟩
 · intro id o hid; rw [Tr.get_e] at hid; cases hid
 · intro id o hid; rw [Tr.get_e] at hid; cases hid
 · intro id id' o o' _ hid; rw [Tr.get_e] at hid; cases hid
 · intro id id' f ep es n el c f' ep' tp' es' n' el' c' _ hid; rw [Tr.get_e] at hid; cases hid
noncomputable def memoK (m:Memo) (args:List AV) (hp:Tr AO) (nx:Pz) (k:AV->Tr AO->Pz->Rs) (z:Rs):Rs :=
 ifK (eqVL m.args args) (ifK (Nat.ble (pzNum nx) (pzNum m.nx)) (ifK (subH m.pre hp) (keepK m.pre hp m.keep m.post fun hp'=>ifK (isE m.post&&plainV m.v) (k m.v hp' nx) (k m.v hp' m.nx')) z) z) z
noncomputable def memosK (ms:List Memo) (args:List AV) (hp:Tr AO) (nx:Pz) (k:AV->Tr AO->Pz->Rs) (z:Rs):Rs :=
 List.rec (motive:=fun _=>Rs) z (fun m _ ih=>memoK m args hp nx k ih) ms
theorem noneK_ok {t:Tr AO} {id:Pz} {r:Rs} (h:noneK t id r=.ok):t.get id=none/\r=.ok:=by
 unfold noneK at h
 cases hg:t.get id with
 | none=>rw [hg] at h; exact⟨rfl,h⟩
 | some o=>rw [hg] at h; cases h
theorem keepK_ok {pre hp:Tr AO}:∀(ids:List Pz) (post:Tr AO) (k:Tr AO->Rs),keepK pre hp ids post k=.ok ->
  ∃hp',k hp'=.ok/\(∀id,id∈ids->∃o,hp.get id=some o/\lone? o=true/\pre.get id=none/\post.get id=none/\hp'.get id=some o)/\∀id,id ∉ ids->hp'.get id=post.get id
 | [],post,k,h=>⟨post,h,fun id hid=>by simp at hid,fun _ _=>rfl⟩
 | id::ids,post,k,h=>by
   have h:(hp.getK id (.bad 244) fun o=>ifK (lone? o) (noneK pre id (noneK post id (post.setK id o fun post=>keepK pre hp ids post k))) (.bad 245))=.ok:=h
   obtain⟨o,ho,h⟩:=getK_ok h
   obtain⟨h1,h⟩:=ifK_ok h
   obtain⟨h2,h⟩:=noneK_ok h
   obtain⟨h3,h⟩:=noneK_ok h
   rw [Tr.setK_eq] at h
   obtain⟨hp',hk,g1,g2⟩:=keepK_ok ids _ k h
   have hid:id ∉ ids:=fun hm=>by
    obtain⟨_,_,_,_,g,_⟩:=g1 id hm
    rw [Tr.get_set_same] at g; cases g
   refine⟨hp',hk,fun j hj=>?_,fun j hj=>?_⟩
   · rcases List.mem_cons.1 hj with rfl | hj
     · exact⟨o,ho,h1,h2,h3,by rw [g2 _ hid,Tr.get_set_same]⟩
     · obtain⟨o',a1,a2,a3,a4,a5⟩:=g1 j hj
       have hne:j≠id:=fun e=>hid (e▸hj)
       rw [Tr.get_set_ne hne] at a4
       exact⟨o',a1,a2,a3,a4,a5⟩
   · simp only [List.mem_cons,not_or] at hj
     rw [g2 j hj.2,Tr.get_set_ne hj.1]
theorem lone_own {o:AO} (h:lone? o=true) (hp:Tr AO):own hp o/\famOf o=none/\(∀e s,o≠.fam e s):=by
 cases o<;>simp [lone?] at h<;>exact⟨trivial,rfl,fun _ _=>by simp⟩
theorem lone_blk {o:AO} (h:lone? o=true) {ι:En} {hp:Tr AO} {w:World} {id:Pz} (ho:ObjOk ι hp w id o):ι.blk id<w.heap.size:=by
 cases o<;>simp [lone?] at h
 · obtain⟨C,fz,h1,_⟩:=ho
   exact (Array.getElem?_eq_some_iff.1 h1).1
 · obtain⟨E,h1,_⟩:=ho
   exact (Array.getElem?_eq_some_iff.1 h1).1
theorem kept_core {B:Nat->Prop} {w0 w w':World} {ι ι':En} {nx nx1:Pz} {hp pre post hp':Tr AO} {ids:List Pz} (hw:Wf hp nx) (hle:nx.num<=nx1.num)
  (g1:∀id,id∈ids->∃o,hp.get id=some o/\lone? o=true/\pre.get id=none/\post.get id=none/\hp'.get id=some o) (g2:∀id,id ∉ ids->hp'.get id=post.get id)
  (hag:Agree nx ι ι') (hc:Core B w0 ι' hp w) (hn:Core (fun k=>B k∨∃id,id∈ids/\ι.blk id=k) w ι' post w'):Core B w0 ι' hp' w':=by
 have hblk:∀id,id∈ids->ι'.blk id=ι.blk id:=fun id hid=>by
  obtain⟨o,a1,_⟩:=g1 id hid
  exact (hag id (hw.lt id o a1)).1
 have hliv:∀f ep,live hp' f ep->live post f ep:=by
  rintro f ep ⟨s,hf⟩
  by_cases hm:f∈ids
  · obtain⟨o,a1,a2,a3,a4,a5⟩:=g1 f hm
    rw [a5] at hf
    cases hf
    simp [lone?] at a2
  · rw [g2 f hm] at hf
    exact⟨s,hf⟩
 have hown:∀o,own hp' o->own post o:=by
  intro o ho
  cases o with
  | seg=>exact hliv _ _ ho
  | fam=>exact ho
  | arr=>trivial
  | map=>trivial
  | iter=>trivial
  | loop=>trivial
  | dmark=>trivial
  | gone=>trivial
 refine⟨hc.below.trans (hn.below.mono fun k hk=>.inl hk),fun k hk=>hn.room k (.inl hk),fun id o hid=>?_,fun id o hid ho=>?_,fun id id' o o' hne hid hid' ho ho' hb=>?_,fun id id' f ep es n el c f' ep' tp' es' n' el' c' hne hid hid' hl hl'=>?_⟩
 · by_cases hm:id∈ids
   · obtain⟨o',a1,a2,a3,a4,a5⟩:=g1 id hm
     rw [a5] at hid
     cases hid
     refine (hc.obj id o a1).keep (fun _=>(lone_own a2 hp).1) (fun _=>?_)
     exact hn.below.block _ (.inr ⟨id,hm,(hblk id hm).symm⟩)
   · rw [g2 id hm] at hid
     exact (hn.obj id o hid).keep (hown o) (fun _=>rfl)
 · by_cases hm:id∈ids
   · obtain⟨o',a1,a2,a3,a4,a5⟩:=g1 id hm
     rw [a5] at hid
     cases hid
     exact hc.base id o a1 (lone_own a2 hp).1
   · rw [g2 id hm] at hid
     exact fun hb=>hn.base id o hid (hown o ho) (.inl hb)
 · by_cases hm:id∈ids
   · obtain⟨x,a1,a2,a3,a4,a5⟩:=g1 id hm
     rw [a5] at hid
     cases hid
     by_cases hm':id'∈ids
     · obtain⟨x',b1,b2,b3,b4,b5⟩:=g1 id' hm'
       rw [b5] at hid'
       cases hid'
       exact hc.sep id id' o o' hne a1 b1 (lone_own a2 hp).1 (lone_own b2 hp).1 hb
     · rw [g2 id' hm'] at hid'
       exact absurd (Or.inr ⟨id,hm,by rw [<-hblk id hm,hb]⟩) (hn.base id' o' hid' (hown o' ho'))
   · rw [g2 id hm] at hid
     by_cases hm':id'∈ids
     · exact absurd (Or.inr ⟨id',hm',by rw [<-hblk id' hm',hb]⟩) (hn.base id o hid (hown o ho))
     · rw [g2 id' hm'] at hid'
       exact hn.sep id id' o o' hne hid hid' (hown o ho) (hown o' ho') hb
 · have hm:id ∉ ids:=fun hm=>by
    obtain⟨x,a1,a2,a3,a4,a5⟩:=g1 id hm
    rw [a5] at hid
    cases hid
    simp [lone?] at a2
   have hm':id' ∉ ids:=fun hm=>by
    obtain⟨x,a1,a2,a3,a4,a5⟩:=g1 id' hm
    rw [a5] at hid'
    cases hid'
    simp [lone?] at a2
   rw [g2 id hm] at hid
   rw [g2 id' hm'] at hid'
   exact hn.tip id id' f ep es n el c f' ep' tp' es' n' el' c' hne hid hid' (hliv _ _ hl) (hliv _ _ hl')
theorem kept_wf {nx nx1:Pz} {hp pre post hp':Tr AO} {ids:List Pz} (hw:Wf hp nx) (hle:nx.num<=nx1.num) (hp1:Wf post nx1)
  (g1:∀id,id∈ids->∃o,hp.get id=some o/\lone? o=true/\pre.get id=none/\post.get id=none/\hp'.get id=some o) (g2:∀id,id ∉ ids->hp'.get id=post.get id):Wf hp' nx1:=by
 have hfam:∀f e s,hp'.get f=some (.fam e s)->post.get f=some (.fam e s):=by
  intro f e s hf
  by_cases hm:f∈ids
  · obtain⟨o,a1,a2,a3,a4,a5⟩:=g1 f hm
    rw [a5] at hf
    cases hf
    simp [lone?] at a2
  · rwa [g2 f hm] at hf
 have hseg:∀id f ep tp es n el c,hp'.get id=some (.seg f ep tp es n el c)->post.get id=some (.seg f ep tp es n el c):=by
  intro id f ep tp es n el c hf
  by_cases hm:id∈ids
  · obtain⟨o,a1,a2,a3,a4,a5⟩:=g1 id hm
    rw [a5] at hf
    cases hf
    simp [lone?] at a2
  · rwa [g2 id hm] at hf
 refine⟨fun id o hid=>?_,fun id f ep tp es n el c hid=>hp1.fam _ _ _ _ _ _ _ _ (hseg _ _ _ _ _ _ _ _ hid),fun id f ep tp es n el c e s hid hf=>hp1.ep _ _ _ _ _ _ _ _ _ _ (hseg _ _ _ _ _ _ _ _ hid) (hfam _ _ _ hf),
  fun f e id id' tp es n el c tp' es' n' el' c' hf hid hid'=>hp1.solo _ _ _ _ _ _ _ _ _ _ _ _ _ _ (hfam _ _ _ hf) (hseg _ _ _ _ _ _ _ _ hid) (hseg _ _ _ _ _ _ _ _ hid')⟩
 by_cases hm:id∈ids
 · obtain⟨x,a1,_⟩:=g1 id hm
   exact Nat.lt_of_lt_of_le (hw.lt id x a1) hle
 · rw [g2 id hm] at hid
   exact hp1.lt id o hid
def Memo.Ok (P:Program) (f:Nat) (m:Memo):Prop:=Ran P f m.args m.pre m.nx m.v m.post m.nx'
theorem ifK_or {b:Bool} {x z:Rs} (h:ifK b x z=.ok):(b=true/\x=.ok)∨z=.ok:=by
 cases b with
 | true=>exact .inl ⟨rfl,h⟩
 | false=>exact .inr h
theorem memo_ok {f:Nat} {m:Memo} (hm:m.Ok P f) {args:List AV} {hp:Tr AO} {nx:Pz} {k:AV->Tr AO->Pz->Rs} {z:Rs} (h:memoK m args hp nx k z=.ok):CallAt P f args hp nx k∨z=.ok:=by
 unfold memoK at h
 rcases ifK_or h with ⟨h1,h⟩ | h
 · rcases ifK_or h with ⟨h2,h⟩ | h
   · rcases ifK_or h with ⟨h3,h⟩ | h
     · left
       have h1:=eqVL_ok _ _ h1
       have h2:=ble_ok h2
       rw [pzNum_eq,pzNum_eq] at h2
       have h3:Part m.pre hp:=subH_ok _ _ h3
       obtain⟨hp',hk,g1,g2⟩:=keepK_ok _ _ _ h
       intro B w0 w ι cargs hw hc G hG
       subst h1
       have hrun:=hm (fun k=>B k∨∃id,id∈m.keep/\ι.blk id=k) w w ι cargs (wf_part h3 h2 hw) (fun ι' hι=>by
        have hι:=hι.le h2
        obtain⟨c1,e1⟩:=hc ι' hι
        have cp:=core_part h3 c1
        refine⟨⟨Kept.refl _ _,fun k hk=>?_,cp.obj,fun id o hid ho=>?_,cp.sep,cp.tip⟩,e1⟩
        · rcases hk with hk | ⟨id,hid,rfl⟩
          · exact c1.room k hk
          · obtain⟨o,a1,a2,_⟩:=g1 id hid
            have:=lone_blk a2 (c1.obj id o a1)
            rwa [(hι id (hw.lt id o a1)).1] at this
        · rintro (hb | ⟨id',hid',hb⟩)
          · exact cp.base id o hid ho hb
          · obtain⟨o',a1,a2,a3,_⟩:=g1 id' hid'
            have hne:id≠id':=fun e=>by rw [e,a3] at hid; cases hid
            obtain⟨fm,_,q⟩:=c1.sep id id' o o' hne (h3 _ _ hid) a1 (h3.own ho) (lone_own a2 hp).1 (by rw [(hι id' (hw.lt id' o' a1)).1,hb])
            rw [(lone_own a2 hp).2.1] at q
            cases q)
       refine Gives.mono hrun fun cv w'=>?_
       rintro⟨ι2,hwp,hle,ha,hcc⟩
       rcases ifK_two hk with ⟨hb,hk⟩ | ⟨hb,hk⟩
       · rw [Bool.and_eq_true] at hb
         have he:=isE_ok hb.1
         obtain⟨q1,q2⟩:=hcc ι2 (Agree.refl _ _)
         rw [he] at q1
         rw [he] at g1 g2
         refine hG m.v hp' nx ι cv w' hk (kept_wf hw (Nat.le_refl _) ⟨?_,?_,?_,?_⟩ g1 g2) (Nat.le_refl _) (Agree.refl _ _) fun ι' hι=>⟨kept_core hw (Nat.le_refl _) g1 g2 hι (hc ι' hι).1 (core_nil q1 ι'),by rw [q2]; exact plainV_ok hb.2 _ _⟩
         · intro id o hid; rw [Tr.get_e] at hid; cases hid
         · intro id f ep tp es n el c hid; rw [Tr.get_e] at hid; cases hid
         · intro id f ep tp es n el c e s hid; rw [Tr.get_e] at hid; cases hid
         · intro f e id id' tp es n el c tp' es' n' el' c' hid; rw [Tr.get_e] at hid; cases hid
       · have hle':=Nat.le_trans h2 hle
         refine hG m.v hp' m.nx' ι2 cv w' hk (kept_wf hw hle' hwp g1 g2) hle' (ha.le h2) fun ι' hι=>⟨?_,(hcc ι' hι).2⟩
         have hag:Agree nx ι ι':=(ha.le h2).trans hι hle'
         exact kept_core hw hle' g1 g2 hag (hc ι' hag).1 (hcc ι' hι).1
     · exact .inr h
   · exact .inr h
 · exact .inr h
theorem memos_ok {f:Nat}:∀(ms:List Memo),(∀m∈ms,m.Ok P f)->∀{args:List AV} {hp:Tr AO} {nx:Pz} {k:AV->Tr AO->Pz->Rs} {z:Rs},memosK ms args hp nx k z=.ok->CallAt P f args hp nx k∨z=.ok
 | [],_,args,hp,nx,k,z,h=>.inr h
 | m::ms,hm,args,hp,nx,k,z,h=>by
   rcases memo_ok (hm m (by simp)) (z:=memosK ms args hp nx k z) h with h | h
   · exact .inl h
   · exact memos_ok ms (fun m' h'=>hm m' (by simp [h'])) h
noncomputable def callM (P:Program) (Pl:Nat->Nat->List Ph) (ms:Nat->List Memo) (fu d:Nat):CallT :=
 Nat.rec (motive:=fun _=>CallT) ⟨fun _ _ _ _ _=>.bad 196,fun _ _ _ _ _ _ _=>.bad 196⟩ (fun _ ih=>⟨fun f args hp nx k=>memosK (ms f) args hp nx k ((fnB P Pl f).run fu ih args hp nx k),codeN P Pl fu ih⟩) d
theorem callM_ok (hm:P.follows .mixedOrders=true) (Pl:Nat->Nat->List Ph) (hpl:∀f fn c,P.funcs[f]?=some fn->fn.body=some c->plansOk P (Pl f) c=true) (ms:Nat->List Memo) (hms:∀f m,m∈ms f->m.Ok P f) (fu:Nat):∀d,CallOk P (callM P Pl ms fu d)
 | 0=>by
   refine⟨fun f args hp nx k h=>?_,fun f nt c tm hp nx K h=>?_⟩
   · cases h
   · cases h
 | d+1=>by
   have ih:=callM_ok hm Pl hpl ms hms fu d
   have hops:=opB_ok ih
   refine⟨fun f args hp nx k h=>?_,fun f nt c tm hp nx K h hno l B w0 w ι a hs Q hn=>?_⟩
   · rcases memos_ok (ms f) (fun m hm=>hms f m hm) (z:=(fnB P Pl f).run fu (callM P Pl ms fu d) args hp nx k) h with h | h
     · exact h
     · exact fnB_ok (range_ok ih) fu Pl hpl hops (fun nt=>draw_ok hm hops nt) h
   · have h:ifK (plansOk P (Pl f) c) ((codeB P f nt (Pl f) c).run fu (callM P Pl ms fu d) tm hp nx K) (.bad 293)=.ok:=h
     obtain⟨hp',h⟩:=ifK_ok h
     exact code_to (r:=some l) hops (draw_ok hm hops nt) (range_ok ih) c hp' (.inr hno) fu tm hp nx K h hs hn
end
end Go.Rex
namespace Go.Rex
open Go.RowKit
section
variable {P:Program}
def Stood (W W':World):Prop:=Kept (fun k=>k<W.heap.size) W W'
theorem Stood.keptBut {W W':World} (h:Stood W W') (may:MemPlace->Prop):W.keptBut W' may:=by
 refine⟨h.os,h.output,fun i hi=>?_⟩
 rw [h.block i hi]
 cases hb:W.heap[i]? with
 | none=>rfl
 | some o =>
   cases o with
   | cells c t fr=>exact⟨rfl,rfl,rfl,fun _ _=>rfl⟩
   | map es c=>exact .inr ⟨rfl,rfl⟩
   | _=>rfl
theorem Stood.frozen {W W':World} (h:Stood W W') {a:Addr} (ha:a.block<W.heap.size):W'.frozen? a=W.frozen? a:=by
 unfold World.frozen?
 rw [h.block a.block ha]
theorem core_start (W:World) (ι:En):Core (fun k=>k<W.heap.size) W ι .e W :=
 have no:∀{id:Pz} {o:AO} {p:Prop},(Tr.e:Tr AO).get id=some o->p:=fun h=>by rw [Tr.get_e] at h; cases h
 ⟨Kept.refl _ _,fun _ h=>h,fun _ _ h=>no h,fun _ _ h=>no h,fun _ _ _ _ _ h=>no h,fun _ _ _ _ _ _ _ _ _ _ _ _ _ _ _ _ h=>no h⟩
theorem wf_start (nx:Pz):Wf .e nx :=
 have no:∀{id:Pz} {o:AO} {p:Prop},(Tr.e:Tr AO).get id=some o->p:=fun h=>by rw [Tr.get_e] at h; cases h
 ⟨fun _ _ h=>no h,fun _ _ _ _ _ _ _ _ h=>no h,fun _ _ _ _ _ _ _ _ _ _ h _=>no h,fun _ _ _ _ _ _ _ _ _ _ _ _ _ _ h _=>no h⟩
theorem gives_calls {f:Nat} {fn:Func} {args:Array Value} {w:World} {G:Value->World->Prop} (hf:P.funcs[f]?=some fn) (hb:fn.body.isNone=false) (hn:(fn.name == "runtime.NumGoroutine")=false) (h:Gives P (callFunc f args) w G) :
  Calls P f args w fun e w'=>∃cv,e=.returned cv/\G cv w':=by
 have hrun:(callFunc f args).run P w=.ok (.enter f args) w:=by
  simp only [callFunc,Sem.run_bind,run_program,Result.andThen_ok,hf,hn,hb,Bool.false_eq_true,if_false,Sem.run_pure]
 rcases h with ⟨cv,w',h | ⟨h,_⟩,_⟩ | ⟨f',args',w',h,hc⟩ | ⟨l,f',tmps,x,y,w',h,_⟩
 · rw [hrun] at h; cases h
 · rw [hrun] at h; cases h
 · rw [hrun] at h
   cases h
   exact hc
 · rw [hrun] at h; cases h
end
open Go.RowKit Go.ChangeShapes Go.WideShapes in
theorem post_of_stood {H:Type} {enc:TypeId × Value->H} {P:Program} {f:Func} {s:ChangeSpec} {apart fresh handsOn again:Bool} {W W':World} {args:Array Value} {v:Value} {ds gs:List (DataW H)} {before pa pv:List MemPlace}
  (hW:DataW.Whole enc P f.params.toList s.vars apart W args.toList ds gs before)
  (hres:∀(b:Nat) (sp:Nat->Bool) (hd:Bool),DataW.TrodAll enc P W' b sp hd f.resultTypes.toList (v.resultList f.resultTypes.size) (s.fn H (ds++gs)).results [])
  (hargs:∀sp:Nat->Bool,(∀p∈before,sp p.block=true)->DataW.TrodAll enc P W' 0 sp true f.params.toList args.toList (s.fn H (ds++gs)).args pa)
  (hvars:∀sp:Nat->Bool,(∀p∈before,sp p.block=true)->DataW.TrodVars enc P W' sp s.vars (s.fn H (ds++gs)).vars pv)
  (hps:before=pa++pv) (hk:Stood W W')
  (hok:∀(j:Nat) (t:TypeId) (r:Value),f.resultTypes[j]?=some t->(v.resultList f.resultTypes.size)[j]?=some r->Value.okWide P W' .any 0 t r) :
  s.post enc P f apart fresh handsOn again W args v W':=by
 have hlt:∀p∈before,p.block<W.heap.size:=fun p hp=>hW.lt p hp
 have hold:∀p∈before,(fun b=>decide (b<W.heap.size)) p.block=true:=fun p hp=>by simpa using hW.lt p hp
 refine⟨ds,gs,before,[],pa,pv,hW,hres _ _ _,hargs _ hold,hvars _ hold,World.keptBut_mono (fun p hp=>⟨hp,?_⟩) (hk.keptBut (·∈before)),fun _=>?_⟩
 · rw [hps,List.mem_append] at hp
   exact Or.inr hp
 · obtain⟨_,_,_,_,_,hz,hn⟩:=hW
   refine⟨hok,_,_,([]++pa)++pv,⟨[]++pa,pv,trodAll_append (hargs _ (fun _ _=>rfl)) (hres _ _ _),hvars _ (fun _ _=>rfl),rfl,?_,?_⟩,?_⟩
   · intro b off hp
     have hm:MemPlace.cell b off∈before:=by rw [hps]; simpa using hp
     rw [hk.frozen (hlt _ hm)]
     exact hz b off hm
   · intro ha
     have:=hn ha
     rw [hps] at this
     simpa using this
   · intro p hp _
     rw [hps]
     simpa using hp
end Go.Rex
namespace Go.Rex
def p (es rs sp fs:List Nat) (h:Option Nat):Ph:=⟨es,rs,sp,fs,h,none⟩
noncomputable def findN {α:Type} (z:α) (n:Nat) (l:List (Nat × α)):α:=List.rec (motive:=fun _=>α) z (fun p _ ih=>Bool.rec (motive:=fun _=>α) ih p.2 (Nat.beq p.1 n)) l
def plans10:List (Nat × List Ph):=[
 (40,[p [0,1,2,3,4,5,6,7,8,9] [] [] [] (some 10),p [] [9] [] [] (some 11),p [] [] [] [] none]),
 (41,[p [0,1,2,3,4,5,6,7,8,9,10,11,12,13,14,15,16,17,18,19,20,21,22] [] [] [] none]),
 (44,[p [0,1,2,3,4,5,6,7,8,9,10,11,12] [] [] [] (some 13),p [14] [0,1,2,3,4] [] [] (some 15),p [] [] [] [] none])]
def plans11:List (Nat × List Ph):=[
 (5,[p [0,1,2,3,4,5,6,7,8,9] [] [] [] (some 10),p [] [9] [] [] (some 11),p [] [] [] [] none]),
 (7,[p [0,1,2,3,4,5,6] [] [] [] (some 7),p [] [] [] [] none]),
 (18,[p [0,1,2,3,4,5,6,7,8,9] [] [] [] (some 10),p [] [9] [] [] (some 11),p [] [] [] [] none]),
 (20,[p [0,1,2,3,4,5,6,7,8,9,10,11,12,13,14] [] [15] [15] (some 16),p [17] [0,1,2,3,4,5] [] [] (some 18),p [] [] [] [] none])]
def plans43:List (Nat × List Ph):=[
 (3,[p [1] [] [3] [] (some 0),p [2] [1] [3] [3] (some 4),p [] [] [] [] none]),
 (4,[p [0,3,6] [] [1,4,7,11] [1] (some 2),p [] [3,6] [4,7,11] [4] (some 5),p [] [6] [7,11] [7] (some 8),p [] [] [11] [] (some 9),p [10] [] [11] [11] (some 12),p [] [] [13] [13] (some 14),p [] [] [] [] none])]
def plans44:List (Nat × List Ph):=[
 (1,[p [0,1,2,3,4,5,6,7,8,9] [] [] [] (some 10),p [] [9] [] [] (some 11),p [] [] [] [] none]),
 (3,[p [0,1,2,3,4,5,6,7,8,9,10] [] [] [] (some 11),p [] [] [] [] none]),
 (4,[p [0,1,2,3,4,5] [] [] [] (some 6),p [] [0,1,2,3,4] [7] [7] (some 8),p [9,10] [0] [] [] (some 11),p [] [] [] [] none])]
def plans45:List (Nat × List Ph):=[
 (1,[p [0,1,2,3,4,5,6,7,8,9] [] [] [] (some 10),p [] [9] [] [] (some 11),p [] [] [] [] none]),
 (3,[p [0,1,2,3,4,5,6,7,8,9,10] [] [] [] (some 11),p [] [] [] [] none]),
 (4,[p [0,1,2,3,4,5] [] [] [] (some 6),p [] [0,1,2,3,4] [7] [7] (some 8),p [9,10] [0] [] [] (some 11),p [] [] [] [] none])]
def plans48:List (Nat × List Ph):=[
 (6,[p [0,1,2,3,4,5,6,7,8,9,10,11,12] [] [] [] (some 13),p [] [12] [] [] (some 14),p [] [] [] [] none]),
 (8,[p [0,1,2,3,4,5,6,7,8,9] [] [] [] (some 10),p [] [] [] [] none])]
def plans50:List (Nat × List Ph):=[
 (6,[p [0,1,2,3,4,5,6,7,8,9,10] [] [11] [11] (some 12),p [13,14] [0] [] [] (some 15),p [] [] [] [] none]),
 (20,[p [0,1,2,3,4,5,6] [] [] [] (some 7),p [] [0] [] [] (some 8),p [] [] [] [] (some 9),p [] [] [] [] none]),
 (21,[p [0,1,2,3,4,5,6,7,8,9] [] [] [] (some 10),p [] [0,1,2,3,4] [11] [11] (some 12),p [13,14] [0] [] [] (some 15),p [] [] [] [] none])]
def plans84:List (Nat × List Ph):=[
 (6,[p [0,2,4,6] [] [] [] (some 1),p [] [2,4,6] [] [] (some 3),p [] [4,6] [] [] (some 5),p [] [6] [] [] (some 7),p [] [] [] [] (some 8),p [] [] [] [] (some 9),p [] [] [] [] (some 10),p [] [] [] [] none])]
def plans87:List (Nat × List Ph):=[
 (2,[p [1] [] [3] [] (some 0),p [2] [1] [3] [3] (some 4),p [] [] [] [] none]),
 (3,[p [0,1,3] [] [2] [] (some 4),p [] [0,1] [2,5] [2,5] (some 6),p [] [] [] [] none])]
def plans91:List (Nat × List Ph):=[
 (1,[p [0,1,2,3] [] [] [] (some 4),p [] [2,3] [] [] (some 5),p [] [] [] [] none]),
 (6,[p [0,1,2] [] [] [] (some 3),p [] [0,1] [4] [4] (some 5),p [6] [] [] [] (some 7),p [] [] [] [] none])]
def plans103:List (Nat × List Ph):=[
 (1,[p [0,1,2,3,4,5,6,7,8] [] [] [] (some 9),p [10,11] [] [] [] none])]
def plans104:List (Nat × List Ph):=[
 (3,[p [0,1,2,3,4,5] [] [10] [] (some 6),p [7,8,9] [] [10] [10] (some 11),p [] [9] [] [] (some 12),p [] [] [] [] none]),
 (4,[p [0,1,2,3,4,5,6,7,8,9,10] [] [11] [11] (some 12),p [13,14] [0] [] [] (some 15),p [] [] [] [] none])]
def plans106:List (Nat × List Ph):=[
 (21,[p [0,1,2,3,4,5,6,7,8,9,10] [] [] [] (some 11),p [] [] [] [] none]),
 (26,[p [0,1,2,3,4,5] [] [] [] (some 6),p [7,8,9,10] [] [] [] (some 11),p [] [] [] [] none]),
 (15,[p [0,1,2,3,4,5,6] [] [] [] (some 7),p [8,9,10] [] [] [] (some 11),p [12] [10] [] [] (some 13),p [] [] [] [] none]),
 (17,[p [0,1,2,3,4,5,7] [] [] [] (some 6),p [] [0,1,7] [] [] (some 8),p [] [] [] [] (some 9),p [] [] [] [] none]),
 (27,[p [0,1,2,3,4,5] [] [6] [6] (some 7),p [8,9] [0] [] [] (some 10),p [] [] [] [] none])]
def plans112:List (Nat × List Ph):=[
 (8,[p [0,1] [] [2,3] [] (some 4),p [] [0,1] [2,3] [2,3] (some 5),p [] [] [] [] none]),
 (11,[p [0,1,2,3,4,5,6,7,8,9,10,11] [] [] [] none])]
def plans114:List (Nat × List Ph):=[
 (6,[p [0,1,2,3,4,5,6] [] [7,8] [] (some 9),p [] [1,2,3,4,5,6] [7,8] [7,8] (some 10),p [] [] [] [] none])]
def plans115:List (Nat × List Ph):=[
 (4,[p [0,1,2,3,4] [] [] [] (some 5),p [] [0,1,2,3,4] [] [] (some 6),p [7,8] [0] [] [] (some 9),p [] [] [] [] none]),
 (5,[p [0,1,2,3,4] [] [] [] (some 5),p [] [0,1,2,3,4] [] [] (some 6),p [7,8] [0] [] [] (some 9),p [] [] [] [] none])]
def plans148:List (Nat × List Ph):=[
 (2,[p [0,1,2,3] [] [] [] (some 4),p [] [1,2,3] [] [] (some 5),p [] [] [] [] none])]
def plans150:List (Nat × List Ph):=[
 (9,[p [0,1,2,3,4,5,7,8] [] [] [] (some 6),p [9] [0,1,2,3,7,8] [10] [10] (some 11),p [12] [] [] [] (some 13),p [] [] [] [] none])]
def plans156:List (Nat × List Ph):=[
 (6,[p [0,1,2,3,4,5,6,7,8,9,10,11] [] [12] [12] (some 13),p [14,15] [0] [] [] (some 16),p [] [] [] [] none])]
def plans157:List (Nat × List Ph):=[
 (17,[p [0,1,2,3,4,5,6,7,8,9,10,11,12,13,14,15] [] [] [] (some 16),p [] [] [] [] (some 17),p [] [] [] [] (some 18),p [] [] [] [] none])]
def plans159:List (Nat × List Ph):=[
 (11,[p [0,1] [] [] [] (some 2),p [] [0,1] [] [] (some 3),p [] [] [] [] none]),
 (17,[p [0,1] [] [] [] (some 2),p [] [0,1] [] [] (some 3),p [] [] [] [] none]),
 (19,[p [0,1] [] [] [] (some 2),p [] [0,1] [] [] (some 3),p [] [] [] [] none])]
def plans164:List (Nat × List Ph):=[
 (28,[p [0] [] [] [] (some 1),p [2,3,4,5] [] [] [] (some 6),p [7,8,9,10,11,12,15,16] [] [] [] (some 13),p [14,17,18] [15,16] [] [] none]),
 (35,[p [0,1,2,3,4,5,6,7,8,9,10,11,12,13,14,15,16,17,18,19,20] [] [21] [21] (some 22),p [] [] [] [] (some 23),p [] [] [] [] none])]
def plans165:List (Nat × List Ph):=[
 (15,[p [0,1,2,3,4,5,6,7,8,9,10] [] [] [] none]),
 (17,[p [0,1,2,3,4,5,6,7,8,9,10,11,12,13] [] [] [] (some 14),p [] [] [] [] none])]
def plans171:List (Nat × List Ph):=[
 (15,[p [0,1,2,3,4,5,6,7,8,9,10] [] [11] [11] (some 12),p [13,14] [0] [] [] (some 15),p [] [] [] [] none])]
def plans172:List (Nat × List Ph):=[
 (8,[p [0,1,2,3,4,5] [] [] [] (some 6),p [] [0,1,2,3] [] [] (some 7),p [] [] [] [] none])]
def plans173:List (Nat × List Ph):=[
 (16,[p [0,1,2,3,4,5,6] [] [7] [7] (some 8),p [9] [] [] [] (some 10),p [] [] [] [] none]),
 (17,[p [0,1,2,3,4,5,6,7,8,9,10,11] [] [12] [12] (some 13),p [14,15] [0,1,2] [] [] (some 16),p [] [] [] [] none])]
def plans177:List (Nat × List Ph):=[
 (10,[p [0,1,2,3,4] [] [] [] (some 5),p [] [] [] [] (some 6),p [] [] [] [] none]),
 (20,[p [0,1,2,3,4,5,6,7,8,9,10] [] [11] [11] (some 12),p [13] [] [] [] (some 14),p [] [] [] [] none])]
def plans179:List (Nat × List Ph):=[
 (4,[p [1] [] [] [] (some 0),p [2] [1] [3] [3] (some 4),p [] [] [] [] none])]
def plans209:List (Nat × List Ph):=[
 (19,[p [0,1,2,3,4,5] [] [] [] (some 6),p [] [] [] [] (some 7),p [] [] [] [] none]),
 (21,[p [0,1,2,3,4,5,6,7,8,9] [] [] [] (some 10),p [] [0,1,2,3] [] [] (some 11),p [] [] [] [] (some 12),p [] [] [] [] none])]
def plans217:List (Nat × List Ph):=[
 (6,[p [0,1,2] [] [] [] (some 3),p [] [0,1] [4] [4] (some 5),p [6] [] [] [] (some 7),p [] [] [] [] none]),
 (11,[p [0,1,2,3,4,5,7,8] [] [] [] (some 6),p [9] [0,1,2,3,7,8] [10] [10] (some 11),p [12] [] [] [] (some 13),p [] [] [] [] none])]
def plans219:List (Nat × List Ph):=[
 (2,[p [0,1,2,3,4,5,6,7,8,9,10,11,12,13] [] [14] [14] (some 15),p [16,17] [0] [] [] (some 18),p [] [] [] [] none]),
 (8,[p [0,1,2,3,4,5] [] [10] [] (some 6),p [7,8,9] [] [10] [10] (some 11),p [] [9] [] [] (some 12),p [] [] [] [] none])]
def plans225:List (Nat × List Ph):=[
 (5,[p [0,1,2,3,4,5] [] [] [] (some 6),p [] [] [] [] none])]
def plans226:List (Nat × List Ph):=[
 (18,[p [0,1,2,3,4,5,6,7] [] [] [] (some 8),p [] [] [] [] none])]
def plans229:List (Nat × List Ph):=[
 (1,[p [0,1,2,3,4,5,6,7,8,9] [] [10] [10] (some 11),p [] [] [] [] none])]
def plans240:List (Nat × List Ph):=[
 (8,[p [0,1,2,3,4,5,6,7,8,9,10] [] [] [] none])]
def plans246:List (Nat × List Ph):=[
 (8,[p [0,1,2,3,4,5,6,7,8,9,10,11,12,13,14,15,16,17,18,19,20,21,22,23,24,25,26,27,28,29,30,31,32,33,34,35,36,37,38,39,40,41,42,43,44,45,46,47,48] [] [] [] none])]
def plans247:List (Nat × List Ph):=[
 (6,[p [0,1,2,3,4,5,6,7,8,9,10,11] [] [12] [12] (some 13),p [] [] [] [] (some 14),p [] [] [] [] none]),
 (17,[p [0,1,2,3,4,5,6,7,8,9,10,11] [] [12] [12] (some 13),p [] [] [] [] (some 14),p [] [] [] [] none])]
def plans249:List (Nat × List Ph):=[
 (5,[p [0,1,2,3,4,5,6,7,8,9,10,11] [] [12] [12] (some 13),p [] [] [] [] (some 14),p [] [] [] [] none])]
def plans250:List (Nat × List Ph):=[
 (5,[p [0,1,2,3,4,5,6,7,8,9,10,11] [] [12] [12] (some 13),p [] [] [] [] (some 14),p [] [] [] [] none])]
def plans251:List (Nat × List Ph):=[
 (5,[p [0,1,2,3,4,5,6,7,8,9,10,11] [] [12] [12] (some 13),p [] [] [] [] (some 14),p [] [] [] [] none])]
def plans255:List (Nat × List Ph):=[
 (6,[p [0,1,2,3,4,5,6,7,8,9] [] [] [] (some 10),p [11,12] [] [] [] (some 13),p [] [] [] [] none]),
 (9,[p [0,1,3,4] [] [] [] (some 2),p [] [3,4] [] [] (some 5),p [] [] [] [] (some 6),p [] [] [] [] (some 7),p [] [] [] [] none]),
 (16,[p [0,1,2,3,4,5,6,7] [] [8] [8] (some 9),p [] [] [] [] none]),
 (17,[p [0,1,2,3,4,5,6,7,8,9,10,11] [] [] [] (some 12),p [] [] [] [] none])]
def plans257:List (Nat × List Ph):=[
 (2,[p [0,1,2,3,4,5,6,7,8,9,10,11,12] [] [13] [13] (some 14),p [15] [0,1,2,3,4] [] [] (some 16),p [] [] [] [] none])]
def plans259:List (Nat × List Ph):=[
 (10,[p [0,1,2,3,4,5,6,7,8,9,10,11] [] [12] [12] (some 13),p [] [] [] [] (some 14),p [] [] [] [] none]),
 (11,[p [0,1,2,3,4,5,6,7] [] [] [] (some 8),p [] [] [] [] none])]
def plans261:List (Nat × List Ph):=[
 (5,[p [0,1,2,3,4,5,6,7,8,9,10,11,12,13,14,15] [] [] [] (some 16),p [] [0,1,2,3,4] [] [] (some 17),p [18,19] [0] [] [] (some 20),p [] [] [] [] none])]
def plans263:List (Nat × List Ph):=[
 (8,[p [0,1,2] [] [] [] (some 3),p [] [] [] [] (some 4),p [] [] [] [] none])]
def plans265:List (Nat × List Ph):=[
 (3,[p [0,1,2,5,6] [] [] [] (some 3),p [] [0,5,6] [] [] (some 4),p [7] [5,6] [] [] (some 8),p [] [] [] [] none]),
 (7,[p [0,1,2,3,4,5,6,9,10,11,14,15] [] [] [] (some 7),p [] [0,1,2,3,4,9,10,11,14,15] [] [] (some 8),p [] [0,1,2,3,9,10,11,14,15] [] [] (some 12),p [] [0,1,2,3,9,14,15] [] [] (some 13),p [16] [0,1,2,3,14,15] [] [] (some 17),p [] [] [] [] none]),
 (8,[p [0,1,2,5,6,7,10,11] [] [13] [] (some 3),p [] [0,5,6,7,10,11] [13] [] (some 4),p [] [5,6,7,10,11] [13] [] (some 8),p [] [5,10,11] [13] [] (some 9),p [12] [10,11] [13] [13] (some 14),p [] [] [] [] none])]
def plans271:List (Nat × List Ph):=[
 (1,[p [0,1,2,3] [] [] [] (some 4),p [] [0,1] [] [] (some 5),p [6] [] [] [] (some 7),p [] [] [] [] none]),
 (2,[p [0,1,2,3] [] [] [] (some 4),p [] [0,1] [] [] (some 5),p [6] [] [] [] (some 7),p [] [] [] [] none]),
 (3,[p [0,1,2,3] [] [] [] (some 4),p [] [0,1] [] [] (some 5),p [6] [] [] [] (some 7),p [] [] [] [] none]),
 (4,[p [0,1,2,3] [] [] [] (some 4),p [] [0,1] [] [] (some 5),p [6] [] [] [] (some 7),p [] [] [] [] none]),
 (5,[p [0,1,2,3] [] [] [] (some 4),p [] [0,1] [] [] (some 5),p [6] [] [] [] (some 7),p [] [] [] [] none]),
 (6,[p [0,1,2,3] [] [] [] (some 4),p [] [0,1] [] [] (some 5),p [6] [] [] [] (some 7),p [] [] [] [] none]),
 (7,[p [0,1,2,3] [] [] [] (some 4),p [] [0,1] [] [] (some 5),p [6] [] [] [] (some 7),p [] [] [] [] none])]
def plans274:List (Nat × List Ph):=[
 (6,[p [0,1,2,3,4,5] [] [8] [] (some 6),p [7] [0,1,2] [8] [8] (some 9),p [] [] [] [] none]),
 (9,[p [0,1,2,4] [] [] [] (some 3),p [5,7] [0,1,2,4] [6] [6] (some 8),p [] [] [] [] none])]
def plans276:List (Nat × List Ph):=[
 (7,[p [0,1,2,3,4,5,6,7] [] [] [] (some 8),p [] [] [] [] none])]
def plans288:List (Nat × List Ph):=[
 (12,[p [0,1,2,3,4,5,6,7,8] [] [12] [] (some 9),p [10,11] [0,1,2,3] [12] [12] (some 13),p [] [] [] [] none])]
def plans308:List (Nat × List Ph):=[
 (5,[p [0,1,2,3,4,5,6] [] [7] [7] (some 8),p [9] [] [] [] (some 10),p [] [] [] [] none]),
 (10,[p [0,1,2,3,4,5,6,7,8] [] [9] [9] (some 10),p [11] [] [] [] (some 12),p [] [] [] [] none]),
 (11,[p [0,1,2,3,4,5,6,7,8] [] [9] [9] (some 10),p [11] [] [] [] (some 12),p [] [] [] [] none])]
def plans309:List (Nat × List Ph):=[
 (14,[p [0,1,2,3,4,5,6,7] [] [] [] (some 8),p [] [] [] [] (some 9),p [] [] [] [] none])]
def plans337:List (Nat × List Ph):=[
 (1,[p [0,1,2,3,4] [] [] [] (some 5),p [] [] [] [] none]),
 (2,[p [0,1,2,3,4,5,6,7] [] [8] [8] (some 9),p [10,11] [0] [] [] (some 12),p [] [] [] [] none]),
 (3,[p [0,1,2,3,4,5,6,7,8,9] [] [10] [10] (some 11),p [12,13] [0] [] [] (some 14),p [] [] [] [] none])]
def plans338:List (Nat × List Ph):=[
 (3,[p [0,1,2,3,4,5,6,7,8] [] [13] [] (some 9),p [10,11,12] [] [13] [13] (some 14),p [] [12] [] [] (some 15),p [] [] [] [] none]),
 (4,[p [0,1,2,3,4,5,6,7,8,9,10,11,12,13] [] [14] [14] (some 15),p [16,17] [0] [] [] (some 18),p [] [] [] [] none]),
 (5,[p [0,1,2,3,4,5,6,7,8] [] [] [] (some 9),p [] [] [] [] none])]
def plans354:List (Nat × List Ph):=[
 (5,[p [0,1,2,3,4] [] [] [] (some 5),p [] [] [] [] (some 6),p [] [] [] [] none]),
 (10,[p [0,1,2,3,4,5] [] [] [] (some 6),p [] [] [] [] none])]
def plans357:List (Nat × List Ph):=[
 (1,[p [0,1,2,3,4,5,6,7,8,9] [] [10] [10] (some 11),p [] [] [] [] none])]
def plans358:List (Nat × List Ph):=[
 (1,[p [0,1,2,3,4,5,6,7,8,9] [] [10] [10] (some 11),p [] [] [] [] none]),
 (2,[p [0,1,2,3,4,5,6,7,8,9,10] [] [] [] none])]
def plans361:List (Nat × List Ph):=[
 (10,[p [0,1,2,3,4,5,6,7,8,9,10] [] [11] [11] (some 12),p [13,14] [0] [] [] (some 15),p [] [] [] [] none]),
 (13,[p [0,1,2,3,4,5,6,7,8,9,10,11] [] [12] [12] (some 13),p [14,15] [0] [] [] (some 16),p [] [] [] [] none]),
 (19,[p [0,1,2,3,4,5] [] [6] [6] (some 7),p [8,9] [0] [] [] (some 10),p [] [] [] [] none])]
def plans367:List (Nat × List Ph):=[
 (3,[p [0,1,3,4] [] [] [] (some 2),p [] [3,4] [] [] (some 5),p [] [] [] [] (some 6),p [] [] [] [] (some 7),p [] [] [] [] none]),
 (9,[p [0,1,2,3,4,5,6,7] [] [8] [8] (some 9),p [] [] [] [] none]),
 (10,[p [0,1,2,3,4,5,7] [] [] [] (some 6),p [8,9,10,11,12,13,14,15,16,17,18,19,20,21,22,23] [7] [] [] none]),
 (11,[p [0,1,2,3,4,5,6,7,8,9,10,11] [] [12] [12] (some 13),p [] [] [] [] none]),
 (16,[p [0,1,2,3,4,5,6,7] [] [8] [8] (some 9),p [] [] [] [] none])]
def plans369:List (Nat × List Ph):=[
 (5,[p [0,1,2,3,4,5,6,7,8,9,10,11,12,13] [] [14] [14] (some 15),p [] [] [] [] (some 16),p [] [] [] [] none]),
 (17,[p [0,1,2,3,4,5,6,7,8,9,10,11,12] [] [] [] (some 13),p [] [0,1,2,3,4] [] [] (some 14),p [15,16] [0] [] [] (some 17),p [] [] [] [] none])]
def plans378:List (Nat × List Ph):=[
 (1,[p [0,1,2,3,4,5,6,7,8,9,10,11,12,13] [] [] [] (some 14),p [] [] [] [] none])]
def plans379:List (Nat × List Ph):=[
 (5,[p [0,1,2,3,4,5,8,9] [] [] [] (some 6),p [] [0,1,2,3,8,9] [] [] (some 7),p [10] [0,1,2,8,9] [11] [11] (some 12),p [] [] [] [] (some 13),p [] [] [] [] none])]
def plans381:List (Nat × List Ph):=[
 (3,[p [0,1,2,3,4,7,8,9,12,13] [] [15] [] (some 5),p [] [0,1,2,7,8,9,12,13] [15] [] (some 6),p [] [0,1,7,8,9,12,13] [15] [] (some 10),p [] [0,1,7,12,13] [15] [] (some 11),p [14] [0,1,12,13] [15] [15] (some 16),p [] [] [] [] none])]
def plans383:List (Nat × List Ph):=[
 (5,[p [0,1,2,3,4,5,6,7,8,9,10] [] [11] [11] (some 12),p [] [] [] [] none])]
def plans391:List (Nat × List Ph):=[
 (6,[p [0,1,2,3,4,5,6,7,8,9,10] [] [] [] (some 11),p [] [] [] [] (some 12),p [] [] [] [] none])]
def plans439:List (Nat × List Ph):=[
 (7,[p [0,1,2,3,4,5,6,7,8,9,10] [] [] [] none]),
 (9,[p [0,1,2,3,4,5,6,7,8,9,10] [] [] [] (some 11),p [] [] [] [] none]),
 (10,[p [0,1,2,3,4,5,6,7,8,9,10] [] [] [] (some 11),p [] [] [] [] none])]
def plans440:List (Nat × List Ph):=[
 (12,[p [0,1,2,3,4,5,6] [] [] [] (some 7),p [8,9,10] [] [] [] (some 11),p [12] [10] [] [] (some 13),p [] [] [] [] none]),
 (15,[p [0,1,2,3,4,5,6] [] [] [] (some 7),p [] [] [] [] (some 8),p [] [] [] [] none]),
 (21,[p [0,1,2,3,4,5] [] [] [] (some 6),p [7,8,9,10] [] [] [] (some 11),p [] [] [] [] none]),
 (22,[p [0,1,2,3,4,5] [] [] [] (some 6),p [] [] [] [] (some 7),p [] [] [] [] none]),
 (26,[p [0,1,2,3,4,5] [] [6] [6] (some 7),p [8,9] [0] [] [] (some 10),p [] [] [] [] none])]
def plans450:List (Nat × List Ph):=[
 (1,[p [0,1,2,3,4,5,6,7,8,9] [] [] [] (some 10),p [] [] [] [] none])]
def plans451:List (Nat × List Ph):=[
 (2,[p [0,1,2,3,4,5,6,7,8,9] [] [] [] (some 10),p [] [] [] [] none])]
def plans453:List (Nat × List Ph):=[
 (6,[p [0,1,2,3,4,5,6,7,8] [] [] [] none])]
def plans462:List (Nat × List Ph):=[
 (5,[p [0,1,2,3,4,5,6,7,8] [] [] [] none])]
def plans465:List (Nat × List Ph):=[
 (4,[p [0,1,2,3,4,6] [] [] [] (some 5),p [] [3,6] [] [] (some 7),p [] [3] [] [] (some 8),p [9] [] [] [] (some 10),p [] [] [] [] none]),
 (6,[p [0,1,3] [] [] [] (some 2),p [] [0,3] [] [] (some 4),p [] [] [] [] (some 5),p [] [] [] [] none]),
 (8,[p [0,1,2,3,4,6] [] [] [] (some 5),p [] [3,6] [] [] (some 7),p [] [3] [] [] (some 8),p [9] [] [] [] (some 10),p [] [] [] [] none])]
def plans468:List (Nat × List Ph):=[
 (7,[p [0,1,2,3,4,5,7,8,9,10,12,13] [] [] [] (some 6),p [] [0,1,7,8,9,10,12,13] [] [] (some 11),p [14] [0,1,12,13] [] [] (some 15),p [] [] [] [] none]),
 (8,[p [0,1,2,3,4,5,6,7,8,9,10] [] [] [] (some 11),p [] [] [] [] none]),
 (10,[p [0,1,2,3,4,5,7,8] [] [] [] (some 6),p [9] [0,1,7,8] [] [] (some 10),p [] [] [] [] none]),
 (11,[p [0,1,2,3,5,6,7,8,10,11] [] [] [] (some 4),p [] [5,6,7,8,10,11] [] [] (some 9),p [12] [10,11] [] [] (some 13),p [] [] [] [] none]),
 (12,[p [0,1,2,3,4,7,8,9,12,13] [] [15] [] (some 5),p [] [0,1,2,7,8,9,12,13] [15] [] (some 6),p [] [0,1,7,8,9,12,13] [15] [] (some 10),p [] [0,1,7,12,13] [15] [] (some 11),p [14] [0,1,12,13] [15] [15] (some 16),p [] [] [] [] none])]
def plans472:List (Nat × List Ph):=[
 (13,[p [0,1,2,3,4,5,6,7,8,9,10,11,12,13,14,15] [] [16] [16] (some 17),p [18] [] [] [] (some 19),p [] [] [] [] none])]
def plans474:List (Nat × List Ph):=[
 (15,[p [0,1,2,3,4,5,6,7] [] [8] [8] (some 9),p [] [] [] [] (some 10),p [] [] [] [] none]),
 (21,[p [0,1,2,3,4,5,6] [] [] [] (some 7),p [8,9,10] [] [] [] (some 11),p [] [10] [] [] none]),
 (22,[p [0,1,2,3,4,5,6,7,8] [] [9] [9] (some 10),p [] [] [] [] (some 11),p [] [] [] [] none])]
def plans482:List (Nat × List Ph):=[
 (4,[p [0,1,2,3,4,5,6,7,8,9,10] [] [] [] (some 11),p [] [] [] [] none]),
 (6,[p [0,1,2,3,4,5,6,7,8,9,10] [] [] [] (some 11),p [] [] [] [] none]),
 (8,[p [0,1,2,3,4,5,6,7,8,9,10] [] [] [] (some 11),p [] [] [] [] none]),
 (10,[p [0,1,2,3,4,5,6,7,8,9,10] [] [] [] (some 11),p [] [] [] [] none])]
def plans483:List (Nat × List Ph):=[
 (4,[p [0,1,2,3,4,5,6,7] [] [] [] (some 8),p [] [] [] [] (some 9),p [] [] [] [] none])]
def plans490:List (Nat × List Ph):=[
 (1,[p [0,1,2,3,4,5,6,7,8,9] [] [] [] (some 10),p [] [] [] [] none])]
def plans501:List (Nat × List Ph):=[
 (4,[p [0,1,2,3,4,5] [] [] [] (some 6),p [7] [0,1,2,3] [] [] (some 8),p [] [] [] [] (some 9),p [] [] [] [] none])]
def plans507:List (Nat × List Ph):=[
 (1,[p [0,1,2,3,4] [] [] [] (some 5),p [] [] [] [] (some 6),p [] [] [] [] none]),
 (8,[p [0,1,2,3,4,5] [] [6] [6] (some 7),p [8,9] [0] [] [] (some 10),p [] [] [] [] none]),
 (17,[p [0,1,2,3,4,5] [] [] [] (some 6),p [] [] [] [] (some 7),p [] [] [] [] none]),
 (28,[p [0,1,2,3,4,5,6,7,8,9,10,11,12,13,14,15,16,17,18,19,20,21,22,23,24,25] [] [] [] (some 26),p [] [] [] [] none]),
 (29,[p [0,1,2,3,4,5,6,7,8] [] [] [] (some 9),p [] [] [] [] none])]
def plans517:List (Nat × List Ph):=[
 (11,[p [0,1,2,3,4,5,6,7,8,13] [] [] [] (some 9),p [10,11,12] [0,1,2,3,13] [] [] (some 14),p [] [] [] [] (some 15),p [] [] [] [] none])]
def plans518:List (Nat × List Ph):=[
 (2,[p [0,1,2,3,4,7,8] [] [] [] (some 5),p [] [0,1,2,7,8] [] [] (some 6),p [9] [0,1,7,8] [] [] (some 10),p [] [] [] [] none])]
def plans519:List (Nat × List Ph):=[
 (14,[p [0,1,2,3,4,5] [] [6] [6] (some 7),⟨[8,10,11],[],[],[],(some 9),some (12,[11,10],[8])⟩]),
 (23,[p [0,1,2,3,4,5,6,7,8,9,10] [] [11] [11] (some 12),⟨[13,15,16],[],[],[],(some 14),some (17,[16,15],[13])⟩])]
def plans520:List (Nat × List Ph):=[
 (10,[p [0,1,2,3,4,5,6,7,8,9,10,11,12] [] [] [] none])]
def plans523:List (Nat × List Ph):=[
 (24,[p [0,1,2,3,4,5,6,7,8,9,10,11,12,13] [] [] [] none])]
def plans524:List (Nat × List Ph):=[
 (5,[p [0,1,2,3,4,5,6] [] [11] [] (some 7),p [8,9,10] [] [11] [11] (some 12),p [] [10] [] [] (some 13),p [] [] [] [] none]),
 (12,[p [0,1,2,3,4,5,6,7,8,10] [] [] [] (some 9),p [11,12,13,14,15,16,17,18,19,20,21,22,23,24,25,26,27,28,29] [10] [] [] (some 30),p [31,32] [] [] [] none])]
def plans527:List (Nat × List Ph):=[
 (12,[p [0,1,2,3,4,5,6,7,8] [] [12] [] (some 9),p [10,11] [0,1,2,3] [12] [12] (some 13),p [] [] [] [] none])]
def plans546:List (Nat × List Ph):=[
 (4,[p [0,1,2,3,4,5,6,7,8] [] [] [] (some 9),p [] [5,6,7,8] [] [] (some 10),p [] [] [] [] none])]
def plans548:List (Nat × List Ph):=[
 (32,[p [0,1,2,3,4,5] [] [] [] (some 6),p [] [1,2,3,4,5] [] [] (some 7),p [] [3,4,5] [] [] (some 8),p [] [] [] [] none])]
def plans571:List (Nat × List Ph):=[
 (8,[p [0,1,2,3,4,5,6,7,8] [] [] [] none]),
 (10,[p [0,1,2,3,4,5,6,7,8] [] [] [] none])]
def planTable:List (Nat × List (Nat × List Ph)):=[
 (10,plans10),(11,plans11),(43,plans43),(44,plans44),(45,plans45),(48,plans48),(50,plans50),(84,plans84),(87,plans87),(91,plans91),(103,plans103),
 (104,plans104),(106,plans106),(112,plans112),(114,plans114),(115,plans115),(148,plans148),(150,plans150),(156,plans156),(157,plans157),(159,plans159),(164,plans164),(165,plans165),(171,plans171),(172,plans172),(173,plans173),(177,plans177),(179,plans179),(209,plans209),(217,plans217),(219,plans219),
 (225,plans225),(226,plans226),(229,plans229),(240,plans240),(246,plans246),(247,plans247),(249,plans249),(250,plans250),(251,plans251),(255,plans255),(257,plans257),(259,plans259),(261,plans261),(263,plans263),(265,plans265),(271,plans271),
 (274,plans274),(276,plans276),(288,plans288),(308,plans308),
 (309,plans309),(337,plans337),(338,plans338),
 (354,plans354),(357,plans357),(358,plans358),(361,plans361),(367,plans367),(369,plans369),(378,plans378),(379,plans379),(381,plans381),(383,plans383),(391,plans391),(439,plans439),(440,plans440),(450,plans450),(451,plans451),(453,plans453),(462,plans462),(465,plans465),(468,plans468),(472,plans472),(474,plans474),(482,plans482),(483,plans483),(490,plans490),(501,plans501),(507,plans507),(517,plans517),(518,plans518),(519,plans519),(520,plans520),(523,plans523),
 (524,plans524),(527,plans527),(546,plans546),(548,plans548),(571,plans571)]
noncomputable def Pl (f id:Nat):List Ph:=findN [] id (findN [] f planTable)
end Go.Rex
namespace Go.Rex
noncomputable def z (n:Nat):Pz:=natPz n
def N (n:Nat):AV:=.int .i64 (.ofNat n)
def U (n:Nat):AV:=.int .u8 (.ofNat n)
theorem findN_mem {α β:Type} {f:Nat} {x:α}:∀{rows:List (Nat × List α)},x∈findN [] f rows->∃r∈rows,r.1=f/\x∈r.2
 | [],h=>by cases h
 | r::rows,h=>by
   have h:x∈(Bool.rec (motive:=fun _=>List α) (findN [] f rows) r.2 (Nat.beq r.1 f):List α):=h
   cases hb:Nat.beq r.1 f with
   | true=>rw [hb] at h; exact⟨r,List.mem_cons_self ..,beq_ok hb,h⟩
   | false =>
     rw [hb] at h
     obtain⟨r',h1,h2⟩:=findN_mem (β:=β) h
     exact⟨r',List.mem_cons_of_mem _ h1,h2⟩
variable {P:Program}
theorem memos_nil {f:Nat}:∀m∈([]:List Memo),m.Ok P f:=fun m h=>by simp at h
theorem memos_cons {f:Nat} {m:Memo} {ms:List Memo} {keep:List Pz} (h:m.Ok P f) (hs:∀m∈ms,Memo.Ok P f m):∀m'∈{ m with keep:=keep }::ms,Memo.Ok P f m':=fun m' hm=>by
 rcases List.mem_cons.1 hm with rfl | hm
 · exact h
 · exact hs m' hm
theorem rows_nil:∀r∈([]:List (Nat × List Memo)),∀m∈r.2,Memo.Ok P r.1 m:=fun r h=>by simp at h
theorem rows_cons {f:Nat} {ms:List Memo} {rows:List (Nat × List Memo)} (h:∀m∈ms,Memo.Ok P f m) (hs:∀r∈rows,∀m∈r.2,Memo.Ok P r.1 m):∀r∈(f,ms)::rows,∀m∈r.2,Memo.Ok P r.1 m:=fun r hr=>by
 rcases List.mem_cons.1 hr with rfl | hr
 · exact h
 · exact hs r hr
theorem table_ok {rows:List (Nat × List Memo)} (h:∀r∈rows,∀m∈r.2,Memo.Ok P r.1 m):∀f m,m∈findN [] f rows->Memo.Ok P f m:=fun f m hm=>by
 obtain⟨r,h1,rfl,h2⟩:=findN_mem (β:=Nat) hm
 exact h r h1 m h2
noncomputable def okB (r:Rs):Bool:=Rs.rec (motive:=fun _=>Bool) true (fun _=>false) r
theorem okB_ok {r:Rs} (h:okB r=true):r=.ok:=by
 cases r with
 | ok=>rfl
 | bad n=>cases h
theorem ran_ofB {call:CallT} (hcall:CallOk P call) {f:Nat} {args:List AV} {pre post:Tr AO} {nx nx':Pz} {v:AV} (h:okB (call.run f args pre nx (seeK v post nx'))=true):Ran P f args pre nx v post nx':=ran_of hcall (okB_ok h)
end Go.Rex
namespace Go.Rex
open Go.RowKit
section
variable {P:Program}
theorem own_blk {o:AO} {ι:En} {hp:Tr AO} {w:World} {id:Pz} (h:own hp o) (ho:ObjOk ι hp w id o):ι.blk id<w.heap.size:=by
 cases o with
 | arr =>
   obtain⟨C,fz,h1,_⟩:=ho
   exact (Array.getElem?_eq_some_iff.1 h1).1
 | seg =>
   obtain⟨C,fz,h1,_⟩:=ho h
   exact (Array.getElem?_eq_some_iff.1 h1).1
 | fam=>exact h.elim
 | map =>
   obtain⟨E,h1,_⟩:=ho
   exact (Array.getElem?_eq_some_iff.1 h1).1
 | iter=>exact (Array.getElem?_eq_some_iff.1 ho.1).1
 | loop =>
   obtain⟨fn,tmps,D,h1,_⟩:=ho
   exact (Array.getElem?_eq_some_iff.1 h1).1
 | dmark=>exact (Array.getElem?_eq_some_iff.1 ho).1
 | gone =>
   have ho:(w.heap[ι.blk id]?).isSome=true:=ho
   cases hb:w.heap[ι.blk id]? with
   | none=>rw [hb] at ho; cases ho
   | some x=>exact (Array.getElem?_eq_some_iff.1 hb).1
end
end Go.Rex

namespace Go.Rex
open Go.RowKit
inductive BK where | raw | data | loc
inductive Gh where
  | cells (k:BK) (el:TypeId) (size:Nat) (C:List AV)
  | map (es:List (AV × AV))
 abbrev GH:=Nat->Option Gh
def nf (v:AV):Prop:=∀ι ι':En,ren ι v=ren ι' v
def nfL (l:List AV):Prop:=∀v∈l,nf v
theorem nf_int (k:IntKind) (n:Int):nf (.int k n):=fun _ _=>by simp [ren]
theorem nf_bool (b:Bool):nf (.bool b):=fun _ _=>by simp [ren]
theorem nf_str (l n:Nat):nf (.str l n):=fun _ _=>by simp [ren]
theorem nf_float (k:FloatKind) (n:Nat):nf (.float k n):=fun _ _=>by simp [ren]
theorem nf_nilp:nf .nilp:=fun _ _=>by simp [ren]
theorem nf_nils:nf .nils:=fun _ _=>by simp [ren]
theorem nf_nilmap:nf .nilmap:=fun _ _=>by simp [ren]
theorem nf_nilfunc:nf .nilfunc:=fun _ _=>by simp [ren]
theorem nf_rsl (b o l c:Nat):nf (.rsl b o l c):=fun _ _=>by simp [ren]
theorem nf_rpt (b o:Nat):nf (.rpt b o):=fun _ _=>by simp [ren]
theorem nf_rmp (b:Nat):nf (.rmp b):=fun _ _=>by simp [ren]
theorem nf_renL {l:List AV} (h:nfL l) (ι ι':En):renL ι l=renL ι' l:=by
 rw [renL_eq,renL_eq]
 exact List.map_congr_left fun v hv=>h v hv ι ι'
theorem nf_agg {l:List AV} (h:nfL l):nf (.agg l):=fun ι ι'=>by simp only [ren]; rw [nf_renL h ι ι']
theorem nf_tup {l:List AV} (h:nfL l):nf (.tup l):=fun ι ι'=>by simp only [ren]; rw [nf_renL h ι ι']
theorem nf_undef:nf undefA:=nf_tup (fun v h=>by simp at h)
theorem nfL_nil:nfL []:=fun v h=>by simp at h
theorem nfL_cons {v:AV} {l:List AV} (h:nf v) (hl:nfL l):nfL (v::l):=fun x hx=>by
 rcases List.mem_cons.1 hx with rfl | hx
 · exact h
 · exact hl x hx
theorem nfL_append {a b:List AV} (ha:nfL a) (hb:nfL b):nfL (a++b):=fun x hx=>by
 rcases List.mem_append.1 hx with hx | hx
 · exact ha x hx
 · exact hb x hx
theorem nfL_take {l:List AV} (n:Nat) (h:nfL l):nfL (l.take n):=fun x hx=>h x (List.mem_of_mem_take hx)
theorem nfL_drop {l:List AV} (n:Nat) (h:nfL l):nfL (l.drop n):=fun x hx=>h x (List.mem_of_mem_drop hx)
def GhOk (B:Nat->Prop) (w:World) (b:Nat):Gh->Prop
 | .cells kd el size C=>nfL C/\∃A fz,w.heap[b]?=some (.cells A el fz)/\A.size=size/\C.length<=size/\(∀i,i<C.length->(kd=.raw->C[i]?≠some undefA)->∀ι,A[i]?=(C[i]?).map (ren ι))/\(kd≠.raw->¬B b/\unfrozen fz A.size)
 | .map es=>¬B b/\∃(E:Array MapEntry) (clock:Nat),w.heap[b]?=some (.map E clock)/\(∀e∈es,nf e.1/\nf e.2)/\∀ι,E.toList.map (fun e=>(e.key,e.val))=es.map fun e=>(ren ι e.1,ren ι e.2)
def GOk (B:Nat->Prop) (G:GH) (w:World):Prop:=∀b g,G b=some g->GhOk B w b g
def SatG (n0:Nat) (B:Nat->Prop) (w0:World) (nt:Nat) (tm:Tm) (hp:Tr AO) (nx:Pz) (G:GH) (ι:En) (a:Act) (w:World):Prop :=
 Sat B w0 nt tm hp nx ι a w/\GOk B G w/\(∀id o,hp.get id=some o->own hp o->G (ι.blk id)=none)/\n0<=w.heap.size/\∀b,b<n0->G b=none->B b
theorem GhOk.lt {B:Nat->Prop} {w:World} {b:Nat} {g:Gh} (h:GhOk B w b g):b<w.heap.size:=by
 cases g with
 | cells wr el size C=>obtain⟨_,A,fz,h1,_⟩:=h; exact (Array.getElem?_eq_some_iff.1 h1).1
 | map es=>obtain⟨_,E,clock,h1,_⟩:=h; exact (Array.getElem?_eq_some_iff.1 h1).1
theorem GhOk.keep {B B':Nat->Prop} {w w':World} {b:Nat} {g:Gh} (h:GhOk B w b g) (he:w'.heap[b]?=w.heap[b]?) (hB:B' b->B b):GhOk B' w' b g:=by
 cases g with
 | cells wr el size C =>
   obtain⟨h0,A,fz,h1,h2,h3,h4,h5⟩:=h
   exact⟨h0,A,fz,by rw [he]; exact h1,h2,h3,h4,fun hw=>⟨fun hb=>(h5 hw).1 (hB hb),(h5 hw).2⟩⟩
 | map es =>
   obtain⟨h0,E,clock,h1,h2⟩:=h
   exact⟨fun hb=>h0 (hB hb),E,clock,by rw [he]; exact h1,h2⟩
def BG (B:Nat->Prop) (G:GH) (b:Nat):Prop:=B b∨(G b).isSome=true
theorem gok_out {B:Nat->Prop} {G:GH} {w w':World} (hg:GOk B G w) (hk:Kept (BG B G) w w'):GOk B G w':=fun b g hb =>
 (hg b g hb).keep (hk.block b (.inr (by rw [hb]; rfl))) (fun h=>h)
section
variable {P:Program} {n0 nt:Nat} {tm T:Tm} {hp H:Tr AO} {nx X:Pz} {G G':GH} {B:Nat->Prop} {w0 w w':World} {ι ι2:En} {a a':Act}
def AfterG (n0:Nat) (B:Nat->Prop) (w0:World) (nt:Nat) (K:Ex->Tm->Tr AO->Pz->GH->Prop) (Q:Exit->Act->World->Prop):Prop :=
 ∀e tm' hp' nx' G' ι2 a' w',K e tm' hp' nx' G'->SatG n0 B w0 nt tm' hp' nx' G' ι2 a' w'->Q (exOf e) a' w'
def GoesG (P:Program) (n0 nt:Nat) (c:Code) (tm:Tm) (hp:Tr AO) (nx:Pz) (G:GH) (K:Ex->Tm->Tr AO->Pz->GH->Prop):Prop :=
 ∀(B:Nat->Prop) (w0 w:World) (ι:En) (a:Act),SatG n0 B w0 nt tm hp nx G ι a w->∀(Q:Exit->Act->World->Prop),AfterG n0 B w0 nt K Q->c.wpIn (fw none) 0 P Q a w
def GoesGOps (P:Program) (n0 nt:Nat) (ops:Array Oper) (i m:Nat) (tm:Tm) (hp:Tr AO) (nx:Pz) (G:GH) (K:Ex->Tm->Tr AO->Pz->GH->Prop):Prop :=
 ∀(B:Nat->Prop) (w0 w:World) (ι:En) (a:Act),SatG n0 B w0 nt tm hp nx G ι a w->∀(Q:Exit->Act->World->Prop),AfterG n0 B w0 nt K Q->wpOpsIn (fw none) 0 P ops Q (List.range' i m) a w
def GoesGR (P:Program) (n0 nt:Nat) (c:Code) (m:Nat) (tm:Tm) (hp:Tr AO) (nx:Pz) (G:GH) (K:Ex->Tm->Tr AO->Pz->GH->Prop):Prop :=
 ∀(B:Nat->Prop) (w0 w:World) (ι:En) (a:Act),SatG n0 B w0 nt tm hp nx G ι a w->∀(Q:Exit->Act->World->Prop),AfterG n0 B w0 nt K Q->Code.roundsIn (fw none) 0 P c Q m a w
noncomputable def nrmG (x:Tm->Tr AO->Pz->GH->Prop) (K:Ex->Tm->Tr AO->Pz->GH->Prop) (e:Ex):Tm->Tr AO->Pz->GH->Prop :=
 Ex.rec (motive:=fun _=>Tm->Tr AO->Pz->GH->Prop) x (fun j=>K (.ext j)) (K .ret) e
noncomputable def blkG (id:Nat) (K:Ex->Tm->Tr AO->Pz->GH->Prop) (e:Ex):Tm->Tr AO->Pz->GH->Prop :=
 Ex.rec (motive:=fun _=>Tm->Tr AO->Pz->GH->Prop) (K .nrm) (fun j=>K (if j=id then .nrm else .ext j)) (K .ret) e
variable {c x y:Code} {K:Ex->Tm->Tr AO->Pz->GH->Prop} {ops:Array Oper} {i m:Nat} {call:CallT}
theorem goesG_seq (h:GoesG P n0 nt x tm hp nx G (nrmG (fun tm hp nx G=>GoesG P n0 nt y tm hp nx G K) K)):GoesG P n0 nt (.seq x y) tm hp nx G K:=by
 intro B w0 w ι a hs Q hn
 refine wpIn_seq (h B w0 w ι a hs _ fun e tm' hp' nx' G' ι2 a' w' hk hs'=>?_)
 cases e with
 | nrm=>exact hk B w0 w' ι2 a' hs' _ hn
 | ext id=>exact hn (.ext id) tm' hp' nx' G' ι2 a' w' hk hs'
 | ret=>exact hn .ret tm' hp' nx' G' ι2 a' w' hk hs'
theorem goesG_block {id:Nat} (h:GoesG P n0 nt x tm hp nx G (blkG id K)):GoesG P n0 nt (.block id x) tm hp nx G K:=by
 intro B w0 w ι a hs Q hn
 refine wpIn_block (h B w0 w ι a hs _ fun e tm' hp' nx' G' ι2 a' w' hk hs'=>?_)
 cases e with
 | nrm=>exact hn .nrm tm' hp' nx' G' ι2 a' w' hk hs'
 | ext j =>
   show if j=id then Q .normal a' w' else Q (.exit j) a' w'
   have hk:K (if j=id then .nrm else .ext j) tm' hp' nx' G':=hk
   split at hk
   · rename_i hj; rw [if_pos hj]; exact hn .nrm tm' hp' nx' G' ι2 a' w' hk hs'
   · rename_i hj; rw [if_neg hj]; exact hn (.ext j) tm' hp' nx' G' ι2 a' w' hk hs'
 | ret=>exact hn .ret tm' hp' nx' G' ι2 a' w' hk hs'
theorem goesG_loop (m:Nat) (h:GoesGR P n0 nt x m tm hp nx G K):GoesG P n0 nt (.loop x) tm hp nx G K:=fun B w0 w ι a hs Q hn=>wpIn_loop_rounds m (h B w0 w ι a hs Q hn)
theorem goesGR_succ (h:GoesG P n0 nt x tm hp nx G (nrmG (fun tm hp nx G=>GoesGR P n0 nt x m tm hp nx G K) K)):GoesGR P n0 nt x (m+1) tm hp nx G K:=by
 intro B w0 w ι a hs Q hn
 rw [roundsIn_succ]
 refine h B w0 w ι a hs _ fun e tm' hp' nx' G' ι2 a' w' hk hs'=>?_
 cases e with
 | nrm=>exact hk B w0 w' ι2 a' hs' _ hn
 | ext id=>exact hn (.ext id) tm' hp' nx' G' ι2 a' w' hk hs'
 | ret=>exact hn .ret tm' hp' nx' G' ι2 a' w' hk hs'
theorem goesG_mono {K':Ex->Tm->Tr AO->Pz->GH->Prop} (h:GoesG P n0 nt c tm hp nx G K) (hk:∀e tm hp nx G,K e tm hp nx G->K' e tm hp nx G):GoesG P n0 nt c tm hp nx G K' :=
 fun B w0 w ι a hs Q hn=>h B w0 w ι a hs Q fun e tm' hp' nx' G' ι2 a' w' hk' hs'=>hn e tm' hp' nx' G' ι2 a' w' (hk _ _ _ _ _ hk') hs'
theorem goesG_region {id:Nat} (hm:ops.size=m) (h:GoesGOps P n0 nt ops 0 m tm hp nx G K):GoesG P n0 nt (.region id ops false) tm hp nx G K:=by
 intro B w0 w ι a hs Q hn
 refine wpIn_region ?_
 rw [List.range_eq_range',hm]
 exact h B w0 w ι a hs Q hn
theorem opsG_end (h:K .nrm tm hp nx G):GoesGOps P n0 nt ops i 0 tm hp nx G K:=fun B w0 w ι a hs Q hn=>hn .nrm tm hp nx G ι a w h hs
theorem goesG_exit {id:Nat} (h:K (.ext id) tm hp nx G):GoesG P n0 nt (.exit id) tm hp nx G K:=fun B w0 w ι a hs Q hn=>wpIn_exit (hn (.ext id) tm hp nx G ι a w h hs)
theorem goesG_ret (h:K .ret tm hp nx G):GoesG P n0 nt .ret tm hp nx G K:=fun B w0 w ι a hs Q hn=>wpIn_ret (hn .ret tm hp nx G ι a w h hs)
theorem goesG_skip (h:K .nrm tm hp nx G):GoesG P n0 nt .skip tm hp nx G K:=fun B w0 w ι a hs Q hn=>wpIn_skip (hn .nrm tm hp nx G ι a w h hs)
theorem goesG_cond_true {t:Nat} (ht:tm.at t=.bool true) (h:GoesG P n0 nt x tm hp nx G K):GoesG P n0 nt (.cond (.tmp t) x y) tm hp nx G K:=fun B w0 w ι a hs Q hn=>wpIn_cond_true (by
  show a.tmps.getD t undef=_
  rw [(hs.1.2 ι (Agree.refl _ _)).1.val t,ht]; rfl) (h B w0 w ι a hs Q hn)
theorem goesG_cond_false {t:Nat} (ht:tm.at t=.bool false) (h:GoesG P n0 nt y tm hp nx G K):GoesG P n0 nt (.cond (.tmp t) x y) tm hp nx G K:=fun B w0 w ι a hs Q hn=>wpIn_cond_false (by
  show a.tmps.getD t undef=_
  rw [(hs.1.2 ι (Agree.refl _ _)).1.val t,ht]; rfl) (h B w0 w ι a hs Q hn)
end
end Go.Rex
namespace Go.Rex
open Go.RowKit
section
variable (P:Program) (ops:Array Oper) (light:List Nat)
def depsIn (S:Nat->Prop) (i:Nat):Prop:=∀e∈(opAt ops i).after,Region.binds .any e=true->S e.on
def bf (j i:Nat):Prop:=bit (Region.before ops) j i=true
def HStep (h:Nat) (c:Act) (w:World) (K:Act->World->Prop):Prop :=
 (Region.wanted (opAt ops h) (yielded ops c.tmps)=true/\Gives P (execOp c.eval (opAt ops h)) w (fun cv w'=>K (c.put (opAt ops h).dst cv) w')) ∨
 (Region.wanted (opAt ops h) (yielded ops c.tmps)=false/\K (c.put (opAt ops h).dst undef) w)
def Dr (Z:Act->World->Prop) (n:Nat):(Nat->Prop)->(Nat->Prop)->Act->World->Prop :=
 Nat.rec (motive:=fun _=>(Nat->Prop)->(Nat->Prop)->Act->World->Prop) (fun _ _ _ _=>False) (fun _ ih CE CH c w =>
  (∃i v d,i∈light/\i<ops.size/\¬CE i/\(opAt ops i).dst=some d/\depsIn ops (fun j=>CE j∨CH j) i/\Yv P ops (opAt ops i) c w v/\ih (fun j=>j=i∨CE j) CH (c.put (some d) v) w) ∨
  ((∀i∈light,i<ops.size->¬CE i->¬depsIn ops (fun j=>CE j∨CH j) i)/\((∀i,i<ops.size->CE i∨CH i)->Z c w) /\
    ∀h,h<ops.size->h ∉ light->¬CH h->depsIn ops (fun j=>CE j∨CH j) h ->
     HStep P ops h c w fun c' w'=>(∀i d,CE i->(opAt ops i).dst=some d->(∀g,(g=h∨CH g)->¬bf ops g i)->Yv P ops (opAt ops i) c' w' (tv c' d))/\ih CE (fun j=>j=h∨CH j) c' w')) n
structure Lt (nt:Nat):Prop where
 look:∀i,i∈light->i<ops.size->notSel (opAt ops i)=true/\∃d,(opAt ops i).dst=some d/\d ∉ (opAt ops i).looksAt ops
 sel:∀i,i<ops.size->notSel (opAt ops i)=true
 own:∀i j d,i∈light->i<ops.size->j<ops.size->i≠j->(opAt ops i).dst=some d->(opAt ops j).dst≠some d
 read:∀i j d,j∈light->i<ops.size->j<ops.size->i≠j->(opAt ops j).dst=some d->d∈(opAt ops i).looksAt ops->bf ops i j
 write:∀i h d,i∈light->h ∉ light->i<ops.size->h<ops.size->(opAt ops h).dst=some d->d∈(opAt ops i).looksAt ops->bf ops i h∨bf ops h i
 edge:∀i,i<ops.size->∀e∈(opAt ops i).after,Region.binds .any e=true->e.on<i
 dst:∀i d,i<ops.size->(opAt ops i).dst=some d->d<nt
end
section
variable {P:Program} {ops:Array Oper} {light:List Nat} {nt:Nat}
theorem depsIn.mono {S S':Nat->Prop} {i:Nat} (h:depsIn ops S i) (hs:∀j,S j->S' j):depsIn ops S' i:=fun e he hb=>hs _ (h e he hb)
structure Inv (P:Program) (ops:Array Oper) (light:List Nat) (nt:Nat) (L:Nat->Prop) (a:Act) (CE CH:Nat->Prop) (c:Act) (w:World):Prop where
 cov:∀i,L i->CE i∨CH i
 lim:∀i,L i->i<ops.size
 ce:∀i,CE i->i∈light/\i<ops.size
 ch:∀h,CH h->h ∉ light/\h<ops.size/\L h
 cl:∀i,(CE i∨CH i)->depsIn ops (fun j=>CE j∨CH j) i
 lcl:∀i,L i->depsIn ops L i
 asz:a.tmps.size=nt
 csz:c.tmps.size=nt
 dfs:a.defers=c.defers
 eq:∀t,(∃i,CE i/\¬L i/\(opAt ops i).dst=some t)∨tv a t=tv c t
 pend:∀i d,CE i->¬L i->(opAt ops i).dst=some d->Yv P ops (opAt ops i) c w (tv c d)
def Shut (P:Program) (ops:Array Oper) (light:List Nat) (Z:Act->World->Prop) (f:Nat) (CE CH:Nat->Prop) (c:Act) (w:World):Prop :=
 (∀i∈light,i<ops.size->¬CE i->¬depsIn ops (fun j=>CE j∨CH j) i)/\((∀i,i<ops.size->CE i∨CH i)->Z c w) /\
   ∀h,h<ops.size->h ∉ light->¬CH h->depsIn ops (fun j=>CE j∨CH j) h ->
    HStep P ops h c w fun c' w'=>(∀i d,CE i->(opAt ops i).dst=some d->(∀g,(g=h∨CH g)->¬bf ops g i)->Yv P ops (opAt ops i) c' w' (tv c' d))/\Dr P ops light Z f CE (fun j=>j=h∨CH j) c' w'
theorem bf_in {S:Nat->Prop} (hlim:∀i,S i->i<ops.size) (hS:∀i,S i->depsIn ops S i) {j i:Nat} (hj:S j) (hb:bf ops j i):S i:=by
 refine before_ok S (fun i o ho hi e he hbi=>?_) j i hj hb
 have hlt:=hlim i hi
 have:o=opAt ops i:=by have:=at_of hlt; rw [ho] at this; exact Option.some.inj this
 subst this
 exact hS i hi e he hbi
theorem advance (hl:Lt ops light nt) {Z:Act->World->Prop} {L CH:Nat->Prop} {a:Act} {w:World}:∀(f:Nat) (CE:Nat->Prop) (c:Act),Dr P ops light Z f CE CH c w->Inv P ops light nt L a CE CH c w ->
  ∃f' CE' c',Shut P ops light Z f' CE' CH c' w/\Inv P ops light nt L a CE' CH c' w
 | 0,CE,c,h,_=>h.elim
 | f+1,CE,c,h,hi=>by
   rcases h with ⟨i,v,d,h1,h2,h3,h4,h5,h6,h7⟩ | h
   · have hnL:¬L i:=fun hL=>by
      rcases hi.cov i hL with h | h
      · exact h3 h
      · exact (hi.ch i h).1 h1
     have hd:d<c.tmps.size:=by rw [hi.csz]; exact hl.dst i d h2 h4
     refine advance hl f _ _ h7 ⟨fun j hj=>?_,hi.lim,fun j hj=>?_,hi.ch,fun j hj=>?_,hi.lcl,hi.asz,by rw [put_size]; exact hi.csz,by rw [put_defers]; exact hi.dfs,fun t=>?_,fun j e hj hnj hje=>?_⟩
     · rcases hi.cov j hj with h | h
       · exact .inl (.inr h)
       · exact .inr h
     · rcases hj with rfl | hj
       · exact⟨h1,h2⟩
       · exact hi.ce j hj
     · rcases hj with (rfl | hj) | hj
       · exact h5.mono fun k hk=>hk.imp .inr id
       · exact (hi.cl j (.inl hj)).mono fun k hk=>hk.imp .inr id
       · exact (hi.cl j (.inr hj)).mono fun k hk=>hk.imp .inr id
     · by_cases ht:t=d
       · subst ht; exact .inl ⟨i,.inl rfl,hnL,h4⟩
       · rcases hi.eq t with ⟨j,q1,q2,q3⟩ | hq
         · exact .inl ⟨j,.inr q1,q2,q3⟩
         · right; rw [hq,tv_put hd,if_neg ht]
     · rcases hj with rfl | hj
       · rw [h4] at hje; cases hje
         rw [tv_put hd,if_pos rfl]
         obtain⟨p1,d',p2,p3⟩:=hl.look j h1 h2
         rw [h4] at p2; cases p2
         refine h6.same p1 fun t ht=>?_
         rw [tv_put hd,if_neg (by intro e; subst e; exact p3 ht)]
       · have hne:j≠i:=fun e=>h3 (e▸hj)
         have hjl:=hi.ce j hj
         have hed:e≠d:=fun he=>by subst he; exact hl.own i j e h1 h2 hjl.2 hne.symm h4 hje
         rw [tv_put hd,if_neg hed]
         refine (hi.pend j e hj hnj hje).same (hl.look j hjl.1 hjl.2).1 fun t ht=>?_
         rw [tv_put hd,if_neg]
         rintro rfl
         have hb:=hl.read j i t h1 hjl.2 h2 hne h4 ht
         have:=bf_in (S:=fun k=>CE k∨CH k) (fun k hk=>hk.elim (fun h=>(hi.ce k h).2) (fun h=>(hi.ch k h).2.1)) hi.cl (.inl hj) hb
         rcases this with h | h
         · exact h3 h
         · exact (hi.ch i h).1 h1
   · exact⟨f,CE,c,h,hi⟩
theorem eq_looks (hl:Lt ops light nt) {L CE CH:Nat->Prop} {a c:Act} {w:World} (hi:Inv P ops light nt L a CE CH c w) {i:Nat} (hlt:i<ops.size) (hdeps:depsIn ops L i) (hn:¬L i):∀t∈(opAt ops i).looksAt ops,tv c t=tv a t:=by
 intro t ht
 rcases hi.eq t with ⟨j,q1,q2,q3⟩ | hq
 · exfalso
   have hj:=hi.ce j q1
   by_cases hne:i=j
   · subst hne
     obtain⟨p1,d',p2,p3⟩:=hl.look i hj.1 hj.2
     rw [q3] at p2; cases p2
     exact p3 ht
   · have hb:=hl.read i j t hj.1 hlt hj.2 hne q3 ht
     have:=bf_in (S:=fun k=>k=i∨L k) (fun k hk=>hk.elim (fun h=>h▸hlt) (hi.lim k)) (fun k hk=>by
      rcases hk with rfl | hk
      · exact hdeps.mono fun _ h=>.inr h
      · exact (hi.lcl k hk).mono fun _ h=>.inr h) (.inl rfl) hb
     rcases this with h | h
     · exact hne h.symm
     · exact q2 h
 · exact hq.symm
def JD (P:Program) (ops:Array Oper) (light:List Nat) (nt:Nat) (Z:Act->World->Prop) (L:Nat->Prop) (a:Act) (w:World):Prop :=
 ∃f CE CH c,Shut P ops light Z f CE CH c w/\Inv P ops light nt L a CE CH c w
theorem act_eq {a c:Act} (h1:a.tmps.size=c.tmps.size) (h2:a.defers=c.defers) (h:∀t,tv a t=tv c t):a=c:=by
 obtain⟨t1,d1⟩:=a
 obtain⟨t2,d2⟩:=c
 simp only at h1 h2
 subst h2
 have:t1=t2:=by
  refine Array.ext h1 fun i hi1 hi2=>?_
  have:=h i
  unfold tv at this
  simp only [Array.getD_eq_getD_getElem?,Array.getElem?_eq_getElem hi1,Array.getElem?_eq_getElem hi2,Option.getD_some] at this
  exact this
 subst this
 rfl
theorem jd_light (hl:Lt ops light nt) {Z:Act->World->Prop} {L:Nat->Prop} {a:Act} {w:World} {i:Nat} (hj:JD P ops light nt Z L a w) (hlt:i<ops.size) (hn:¬L i) (hdeps:depsIn ops L i) (hi:i∈light) :
  ∃v,Yv P ops (opAt ops i) a w v/\JD P ops light nt Z (fun j=>j=i∨L j) (a.put (opAt ops i).dst v) w:=by
 obtain⟨f,CE,CH,c,hs,hv⟩:=hj
 have hce:CE i:=Classical.byContradiction fun h=>hs.1 i hi hlt h (hdeps.mono fun j hj=>hv.cov j hj)
 obtain⟨p1,d,p2,p3⟩:=hl.look i hi hlt
 have hy:=hv.pend i d hce hn p2
 have hd:d<a.tmps.size:=by rw [hv.asz]; exact hl.dst i d hlt p2
 refine⟨tv c d,hy.same p1 (eq_looks hl hv hlt hdeps hn),f,CE,CH,c,hs,⟨fun j hj=>?_,fun j hj=>?_,hv.ce,fun h hh=>?_,hv.cl,fun j hj=>?_,by rw [put_size]; exact hv.asz,hv.csz,by rw [put_defers]; exact hv.dfs,fun t=>?_,fun j e hj hnj hje=>?_⟩⟩
 · rcases hj with rfl | hj
   · exact .inl hce
   · exact hv.cov j hj
 · rcases hj with rfl | hj
   · exact hlt
   · exact hv.lim j hj
 · obtain⟨q1,q2,q3⟩:=hv.ch h hh
   exact⟨q1,q2,.inr q3⟩
 · rcases hj with rfl | hj
   · exact hdeps.mono fun _ h=>.inr h
   · exact (hv.lcl j hj).mono fun _ h=>.inr h
 · rw [p2]
   by_cases ht:t=d
   · subst ht; right; rw [tv_put hd,if_pos rfl]
   · rw [tv_put hd,if_neg ht]
     rcases hv.eq t with ⟨j,q1,q2,q3⟩ | hq
     · refine .inl ⟨j,q1,?_,q3⟩
       rintro (rfl | h)
       · rw [p2] at q3; cases q3; exact ht rfl
       · exact q2 h
     · exact .inr hq
 · exact hv.pend j e hj (fun h=>hnj (.inr h)) hje
theorem HStep.same (hl:Lt ops light nt) {h:Nat} (hlt:h<ops.size) {a c:Act} {w:World} (he:∀t∈(opAt ops h).looksAt ops,tv c t=tv a t) {K K':Act->World->Prop} (hk:HStep P ops h c w K)
  (hkk:∀cv w',K (c.put (opAt ops h).dst cv) w'->K' (a.put (opAt ops h).dst cv) w'):HStep P ops h a w K':=by
 unfold HStep at hk ⊢
 rw [<-exec_same (hl.sel h hlt) he,<-wanted_same he]
 rcases hk with ⟨h1,h2⟩ | ⟨h1,h2⟩
 · exact .inl ⟨h1,h2.mono fun cv w' g=>hkk cv w' g⟩
 · exact .inr ⟨h1,hkk _ _ h2⟩
theorem jd_heavy (hl:Lt ops light nt) {Z:Act->World->Prop} {L:Nat->Prop} {a:Act} {w:World} {h:Nat} (hj:JD P ops light nt Z L a w) (hlt:h<ops.size) (hn:¬L h) (hdeps:depsIn ops L h) (hi:h ∉ light) :
  HStep P ops h a w fun a' w'=>JD P ops light nt Z (fun j=>j=h∨L j) a' w':=by
 obtain⟨f,CE,CH,c,hs,hv⟩:=hj
 have hnc:¬CH h:=fun hc=>hn (hv.ch h hc).2.2
 refine (hs.2.2 h hlt hi hnc (hdeps.mono fun j hj=>hv.cov j hj)).same hl hlt (eq_looks hl hv hlt hdeps hn) fun cv w' ⟨hre,hdr⟩=>?_
 have hinv:Inv P ops light nt (fun j=>j=h∨L j) (a.put (opAt ops h).dst cv) CE (fun j=>j=h∨CH j) (c.put (opAt ops h).dst cv) w':=by
  refine⟨fun j hj=>?_,fun j hj=>?_,hv.ce,fun g hg=>?_,fun j hj=>?_,fun j hj=>?_,by rw [put_size]; exact hv.asz,by rw [put_size]; exact hv.csz,by rw [put_defers,put_defers]; exact hv.dfs,fun t=>?_,fun j e hj hnj hje=>?_⟩
  · rcases hj with rfl | hj
    · exact .inr (.inl rfl)
    · exact (hv.cov j hj).imp id .inr
  · rcases hj with rfl | hj
    · exact hlt
    · exact hv.lim j hj
  · rcases hg with rfl | hg
    · exact⟨hi,hlt,.inl rfl⟩
    · obtain⟨q1,q2,q3⟩:=hv.ch g hg
      exact⟨q1,q2,.inr q3⟩
  · rcases hj with hj | rfl | hj
    · exact (hv.cl j (.inl hj)).mono fun k hk=>hk.imp id .inr
    · exact hdeps.mono fun k hk=>(hv.cov k hk).imp id .inr
    · exact (hv.cl j (.inr hj)).mono fun k hk=>hk.imp id .inr
  · rcases hj with rfl | hj
    · exact hdeps.mono fun _ h=>.inr h
    · exact (hv.lcl j hj).mono fun _ h=>.inr h
  · cases hdst:(opAt ops h).dst with
    | none =>
      rw [tv_put_none,tv_put_none]
      rcases hv.eq t with ⟨j,q1,q2,q3⟩ | hq
      · refine .inl ⟨j,q1,?_,q3⟩
        rintro (rfl | hL)
        · exact hi (hv.ce j q1).1
        · exact q2 hL
      · exact .inr hq
    | some d =>
      have hd:=hl.dst h d hlt hdst
      rw [tv_put (by rw [hv.asz]; exact hd),tv_put (by rw [hv.csz]; exact hd)]
      by_cases ht:t=d
      · rw [if_pos ht,if_pos ht]; exact .inr rfl
      · rw [if_neg ht,if_neg ht]
        rcases hv.eq t with ⟨j,q1,q2,q3⟩ | hq
        · refine .inl ⟨j,q1,?_,q3⟩
          rintro (rfl | hL)
          · exact hi (hv.ce j q1).1
          · exact q2 hL
        · exact .inr hq
  · refine hre j e hj hje fun g hg hb=>hnj ?_
    have hgL:(fun k=>k=h∨L k) g:=by
     rcases hg with rfl | hg
     · exact .inl rfl
     · exact .inr (hv.ch g hg).2.2
    exact bf_in (S:=fun k=>k=h∨L k) (fun k hk=>hk.elim (fun e=>e▸hlt) (hv.lim k)) (fun k hk=>by
     rcases hk with rfl | hk
     · exact hdeps.mono fun _ h=>.inr h
     · exact (hv.lcl k hk).mono fun _ h=>.inr h) hgL hb
 obtain⟨f',CE',c',h1,h2⟩:=advance hl f CE _ hdr hinv
 exact⟨f',CE',_,c',h1,h2⟩
theorem HStep.wp {r:Option Nat} {i:Nat} (hi:i<ops.size) {a:Act} {w:World} {K:Act->World->Prop} {Q:Exit->Act->World->Prop} (h:HStep P ops i a w K):wpOpIn (fw r) 0 P ops Q i K a w:=by
 unfold wpOpIn
 rw [at_of hi]
 simp only
 rcases h with ⟨h1,h2⟩ | ⟨h1,h2⟩
 · rw [if_pos h1]; exact Gives.wp h2 fun _ _ h=>h
 · rw [if_neg (by rw [h1]; decide)]; exact⟨fun _ _=>trivial,h2⟩
theorem any_dr {r:Option Nat} (hl:Lt ops light nt) {Q:Exit->Act->World->Prop}:∀(fuel:Nat) (listed:Array Bool) (a:Act) (w:World),listed.size=ops.size->listed.toList.count false<=fuel ->
  JD P ops light nt (Q .normal) (fun i=>listed.getD i false=true) a w->wpAnyIn (fw r) 0 P .any ops Q fuel listed a w:=by
 have endq:∀(listed:Array Bool) (a:Act) (w:World),listed.size=ops.size->JD P ops light nt (Q .normal) (fun i=>listed.getD i false=true) a w->Region.ready .any ops listed=[]->Q .normal a w:=by
  intro listed a w hsz hj hrd
  have all:∀i,i<ops.size->listed.getD i false=true:=by
   intro i hi
   induction i using Nat.strongRecOn with
   | ind i ih =>
     rcases Bool.eq_false_or_eq_true (listed.getD i false) with h | h
     · exact h
     · exfalso
       have hmem:i∈Region.ready .any ops listed:=by
        rw [mem_ready]
        refine⟨?_,opAt ops i,at_of hi,fun e he hb=>ih e.on (hl.edge i hi e he hb) (by have:=hl.edge i hi e he hb; omega)⟩
        rw [Array.getD_eq_getD_getElem?,Array.getElem?_eq_getElem (by omega)] at h ⊢
        exact h
       rw [hrd] at hmem
       simp at hmem
  obtain⟨f,CE,CH,c,hs,hv⟩:=hj
  have hZ:=hs.2.1 fun i hi=>hv.cov i (all i hi)
  have:a=c:=act_eq (by rw [hv.asz,hv.csz]) hv.dfs fun t=>by
   rcases hv.eq t with ⟨j,q1,q2,q3⟩ | hq
   · exact absurd (all j (hv.ce j q1).2) q2
   · exact hq
  rw [this]
  exact hZ
 intro fuel
 induction fuel with
 | zero =>
   intro listed a w hsz hc hh
   have hrd:Region.ready .any ops listed=[]:=by
    apply List.eq_nil_iff_forall_not_mem.2
    intro j hj
    rw [mem_ready] at hj
    obtain⟨h1,_⟩:=hj
    have hlt:j<listed.size:=by
     rcases Nat.lt_or_ge j listed.size with h | h
     · exact h
     · rw [Array.getD_eq_getD_getElem?,Array.getElem?_eq_none h] at h1; cases h1
    have:false∈listed.toList:=by
     rw [Array.getD_eq_getD_getElem?,Array.getElem?_eq_getElem hlt] at h1
     simp only [Option.getD_some] at h1
     rw [<-h1]
     exact Array.getElem_mem_toList hlt
    have:=List.count_pos_iff.2 this
    omega
   exact⟨hrd,endq listed a w hsz hh hrd⟩
 | succ fuel ih =>
   intro listed a w hsz hc hh
   refine⟨endq listed a w hsz hh,fun i hi=>?_⟩
   rw [mem_ready] at hi
   obtain⟨h1,o,ho,hpre⟩:=hi
   have hlt:i<ops.size:=(Array.getElem?_eq_some_iff.1 ho).1
   have hio:o=opAt ops i:=by have:=at_of hlt; rw [ho] at this; exact Option.some.inj this
   subst hio
   have hlt':i<listed.size:=by omega
   have hLi:¬listed.getD i false=true:=by
    rw [Array.getD_eq_getD_getElem?,Array.getElem?_eq_getElem hlt'] at h1 ⊢
    simp only [Option.getD_some] at h1 ⊢
    rw [h1]; decide
   have hcount:(listed.setIfInBounds i true).toList.count false<=fuel:=by
    have hf:listed.toList[i]'(by simpa using hlt')=false:=by
     rw [Array.getD_eq_getD_getElem?,Array.getElem?_eq_getElem hlt'] at h1
     simpa using h1
    have h2:(listed.toList.set i true).count false=listed.toList.count false-1:=by
     rw [List.count_set (by simpa using hlt')]
     simp [hf]
    have h3:0<listed.toList.count false:=List.count_pos_iff.2 (by rw [<-hf]; exact List.getElem_mem _)
    rw [Array.toList_setIfInBounds,h2]
    omega
   have hsz':(listed.setIfInBounds i true).size=ops.size:=by simpa using hsz
   have next:∀a' w',JD P ops light nt (Q .normal) (fun j=>j=i∨listed.getD j false=true) a' w'->wpAnyIn (fw r) 0 P .any ops Q fuel (listed.setIfInBounds i true) a' w':=by
    intro a' w' h
    refine ih _ a' w' hsz' hcount ?_
    have e:(fun j=>(listed.setIfInBounds i true).getD j false=true)=fun j=>j=i∨listed.getD j false=true:=funext fun j=>set_L hlt'
    rw [e]
    exact h
   by_cases hli:i∈light
   · obtain⟨v,hy,h2⟩:=jd_light hl hh hlt hLi hpre hli
     exact hy.wp ho (next _ _ h2)
   · have:=jd_heavy hl hh hlt hLi hpre hli
     refine HStep.wp hlt ?_
     rcases this with ⟨p1,p2⟩ | ⟨p1,p2⟩
     · exact .inl ⟨p1,p2.mono fun cv w' g=>next _ _ g⟩
     · exact .inr ⟨p1,next _ _ p2⟩
theorem wpIn_dr {r:Option Nat} (hm:P.follows .mixedOrders=true) (hl:Lt ops light nt) {id:Nat} {Q:Exit->Act->World->Prop} {a:Act} {w:World} (hsz:a.tmps.size=nt) {f:Nat}
  (h:Dr P ops light (Q .normal) f (fun _=>False) (fun _=>False) a w.drew):(Code.region id ops true).wpIn (fw r) 0 P Q a w:=by
 refine wpIn_region_any hm ?_
 have no:∀i,¬(Array.replicate ops.size false).getD i false=true:=by
  intro i hi
  rw [Array.getD_eq_getD_getElem?,Array.getElem?_replicate] at hi
  split at hi<;>cases hi
 refine any_dr hl ops.size _ a w.drew (by simp) (by simp) ?_
 have hinv:Inv P ops light nt (fun i=>(Array.replicate ops.size false).getD i false=true) a (fun _=>False) (fun _=>False) a w.drew :=
  ⟨fun i hi=>absurd hi (no i),fun i hi=>absurd hi (no i),fun i hi=>hi.elim,fun i hi=>hi.elim,fun i hi=>(by rcases hi with h | h<;>exact h.elim),fun i hi=>absurd hi (no i),hsz,hsz,rfl,fun t=>.inr rfl,fun i d hi=>hi.elim⟩
 obtain⟨f',CE',c',h1,h2⟩:=advance hl f _ _ h hinv
 exact⟨f',CE',_,c',h1,h2⟩
end
end Go.Rex
namespace Go.Rex
open Go.RowKit
section
variable {P:Program} {n0 nt:Nat} {T T2:Tm} {hp H:Tr AO} {nx X:Pz} {G:GH} {ops:Array Oper} {light:List Nat} {i m d:Nat} {v:AV} {call:CallT}
theorem satG_agree {B:Nat->Prop} {w0 w:World} {ι ι':En} {a:Act} (h:SatG n0 B w0 nt T hp nx G ι a w) (hι:Agree nx ι ι'):SatG n0 B w0 nt T hp nx G ι' a w :=
 ⟨⟨h.1.1,fun ι2 h2=>h.1.2 ι2 (hι.trans h2 (Nat.le_refl _))⟩,h.2.1,(fun id o hid ho=>by rw [(hι id (h.1.1.lt id o hid)).1]; exact h.2.2.1 id o hid ho),h.2.2.2⟩
def LVG (P:Program) (ops:Array Oper) (n0 nt i:Nat) (T:Tm) (hp:Tr AO) (nx:Pz) (G:GH) (v:AV):Prop :=
 ∀B w0 ι a w,SatG n0 B w0 nt T hp nx G ι a w->Yv P ops (opAt ops i) a w (ren ι v)
theorem LVG.put {B:Nat->Prop} {w0 w:World} {ι:En} {a:Act} (h:LVG P ops n0 nt i T hp nx G v) (hd:d<nt) (hs:SatG n0 B w0 nt T hp nx G ι a w):SatG n0 B w0 nt (T.put d v) hp nx G ι (a.put (some d) (ren ι v)) w:=by
 refine⟨⟨hs.1.1,fun ι' hι=>⟨?_,(hs.1.2 ι' hι).2⟩⟩,hs.2.1,hs.2.2⟩
 exact tmpOk_put (hs.1.2 ι' hι).1 hd ((h B w0 ι a w hs).det (h B w0 ι' a w (satG_agree hs hι)))
def StG (P:Program) (n0 nt:Nat) (ops:Array Oper) (i:Nat) (T:Tm) (hp:Tr AO) (nx:Pz) (G:GH) (R:Tm->Tr AO->Pz->GH->Prop):Prop :=
 ∀B w0 ι a w,SatG n0 B w0 nt T hp nx G ι a w->HStep P ops i a w fun a' w'=>∃T' hp' nx' G' ι2,R T' hp' nx' G'/\SatG n0 B w0 nt T' hp' nx' G' ι2 a' w'
theorem Yv.step {o:Oper} {a:Act} {w:World} {cv:Value} (ho:opAt ops i=o) (h:Yv P ops o a w cv) {K:Act->World->Prop} (hk:K (a.put o.dst cv) w):HStep P ops i a w K:=by
 subst ho
 rcases h with ⟨h1,h2⟩ | ⟨h1,rfl⟩
 · exact .inl ⟨h1,.inl ⟨cv,w,.inl h2,hk⟩⟩
 · exact .inr ⟨h1,hk⟩
theorem LVG.st (h:LVG P ops n0 nt i T hp nx G v) (hd:(opAt ops i).dst=some d) (hlt:d<nt) {R:Tm->Tr AO->Pz->GH->Prop} (hr:R (T.put d v) hp nx G):StG P n0 nt ops i T hp nx G R:=by
 intro B w0 ι a w hs
 refine Yv.step rfl (h B w0 ι a w hs) ⟨_,_,_,_,ι,hr,?_⟩
 rw [hd]
 exact h.put hlt hs
theorem StG.mono {R R':Tm->Tr AO->Pz->GH->Prop} (h:StG P n0 nt ops i T hp nx G R) (hr:∀T hp nx G,R T hp nx G->R' T hp nx G):StG P n0 nt ops i T hp nx G R':=by
 intro B w0 ι a w hs
 have:=h B w0 ι a w hs
 rcases this with ⟨h1,h2⟩ | ⟨h1,T',hp',nx',G',ι2,g1,g2⟩
 · exact .inl ⟨h1,h2.mono fun cv w' ⟨T',hp',nx',G',ι2,g1,g2⟩=>⟨T',hp',nx',G',ι2,hr _ _ _ _ g1,g2⟩⟩
 · exact .inr ⟨h1,T',hp',nx',G',ι2,hr _ _ _ _ g1,g2⟩
theorem opsG_st {K:Ex->Tm->Tr AO->Pz->GH->Prop} (hi:i<ops.size) (h:StG P n0 nt ops i T hp nx G fun T' hp' nx' G'=>GoesGOps P n0 nt ops (i+1) m T' hp' nx' G' K):GoesGOps P n0 nt ops i (m+1) T hp nx G K:=by
 intro B w0 w ι a hs Q hn
 rw [List.range'_succ,wpOpsIn_cons]
 refine HStep.wp hi ?_
 have h2:∀a' w',(∃T' hp' nx' G' ι2,GoesGOps P n0 nt ops (i+1) m T' hp' nx' G' K/\SatG n0 B w0 nt T' hp' nx' G' ι2 a' w')->wpOpsIn (fw none) 0 P ops Q (List.range' (i+1) m) a' w' :=
  fun a' w' ⟨T',hp',nx',G',ι2,g1,g4⟩=>g1 B w0 w' ι2 a' g4 Q hn
 rcases h B w0 ι a w hs with ⟨p1,p2⟩ | ⟨p1,p2⟩
 · exact .inl ⟨p1,p2.mono fun cv w' g=>h2 _ _ g⟩
 · exact .inr ⟨p1,h2 _ _ p2⟩
def GDr (P:Program) (n0 nt:Nat) (ops:Array Oper) (light:List Nat) (f:Nat) (ce ch:List Nat) (T:Tm) (hp:Tr AO) (nx:Pz) (G:GH) (K:Tm->Tr AO->Pz->GH->Prop):Prop :=
 ∀B w0 ι a w,SatG n0 B w0 nt T hp nx G ι a w->∀Z:Act->World->Prop,(∀T' hp' nx' G' ι2 a' w',K T' hp' nx' G'->SatG n0 B w0 nt T' hp' nx' G' ι2 a' w'->Z a' w') ->
  Dr P ops light Z f (fun j=>j∈ce) (fun j=>j∈ch) a w
def depsB (ops:Array Oper) (l:List Nat) (i:Nat):Bool:=(opAt ops i).after.all fun e=>!Region.binds .any e||l.contains e.on
theorem depsB_ok {l:List Nat} {S:Nat->Prop} (hS:∀j,j∈l->S j) (h:depsB ops l i=true):depsIn ops S i:=by
 intro e he hb
 have:=Array.all_eq_true'.1 h e he
 rw [hb] at this
 exact hS _ (by simpa using this)
theorem depsB_of {l:List Nat} {S:Nat->Prop} (hS:∀j,S j->j∈l) (h:depsIn ops S i):depsB ops l i=true:=by
 refine Array.all_eq_true'.2 fun e he=>?_
 cases hb:Region.binds .any e with
 | false=>rfl
 | true=>simpa using hS _ (h e he hb)
def nextL (ops:Array Oper) (light ce ch:List Nat):List Nat:=(List.range ops.size).filter fun i=>light.contains i&&(!ce.contains i&&depsB ops (ce++ch) i)
def nextH (ops:Array Oper) (light ce ch:List Nat):List Nat:=(List.range ops.size).filter fun i=>!light.contains i&&(!ch.contains i&&depsB ops (ce++ch) i)
def leftB (ops:Array Oper) (ce ch:List Nat):Bool:=(List.range ops.size).all fun i=>ce.contains i||ch.contains i
def stillL (ops:Array Oper) (ce ch:List Nat):List Nat:=ce.filter fun i=>ch.all fun g=>!bit (Region.before ops) g i
variable {f:Nat} {ce ch:List Nat} {K:Tm->Tr AO->Pz->GH->Prop}
theorem gdr_light (hm:(light.contains i&&(!ce.contains i&&(Nat.blt i ops.size&&depsB ops (ce++ch) i)))=true) (h:LVG P ops n0 nt i T hp nx G v) (hd:(opAt ops i).dst=some d) (hlt:d<nt)
  (hg:GDr P n0 nt ops light f (i::ce) ch (T.put d v) hp nx G K):GDr P n0 nt ops light (f+1) ce ch T hp nx G K:=by
 intro B w0 ι a w hs Z hz
 simp only [Bool.and_eq_true,Bool.not_eq_true',List.contains_iff_mem] at hm
 obtain⟨h1,h2,h3,h4⟩:=hm
 have h2:i ∉ ce:=fun hc=>by rw [<-List.contains_iff_mem] at hc; rw [hc] at h2; cases h2
 refine .inl ⟨i,ren ι v,d,h1,blt_ok h3,h2,hd,depsB_ok (fun j hj=>List.mem_append.1 hj) h4,h B w0 ι a w hs,?_⟩
 have:=hg B w0 ι _ w (h.put hlt hs) Z hz
 have e:(fun j=>j∈i::ce)=fun j=>j=i∨j∈ce:=funext fun j=>by simp
 rw [e] at this
 exact this
theorem gdr_end (hm:leftB ops ce ch=true) (hm2:((List.range ops.size).all fun i=>!light.contains i||ce.contains i)=true) (hm3:((List.range ops.size).all fun i=>light.contains i||ch.contains i)=true) (hk:K T hp nx G):GDr P n0 nt ops light (f+1) ce ch T hp nx G K:=by
 intro B w0 ι a w hs Z hz
 rw [List.all_eq_true] at hm2 hm3
 refine .inr ⟨fun i hi hlt hc hd=>?_,fun _=>hz T hp nx G ι a w hk hs,fun g hlt hl hc hd=>?_⟩
 · have:=hm2 i (List.mem_range.2 hlt)
   simp [hi,hc] at this
 · have:=hm3 g (List.mem_range.2 hlt)
   simp [hl,hc] at this
end
end Go.Rex
namespace Go.Rex
open Go.RowKit
section
variable {P:Program} {n0 nt:Nat} {T T2:Tm} {hp H:Tr AO} {nx X:Pz} {G:GH} {ops:Array Oper} {light:List Nat} {i m d:Nat} {v:AV} {call:CallT}
def ltB (ops:Array Oper) (light:List Nat) (nt:Nat):Bool :=
 (List.range ops.size).all fun i =>
  notSel (opAt ops i)&&(((opAt ops i).after.all fun e=>!Region.binds .any e||Nat.blt e.on i)&&((match (opAt ops i).dst with | some d=>Nat.blt d nt | none=>true) &&
  ((!light.contains i||(match (opAt ops i).dst with | some d=>!((opAt ops i).looksAt ops).contains d&&((List.range ops.size).all fun j=>i==j||!((opAt ops j).dst==some d)) | none=>false)) &&
   ((List.range ops.size).all fun j=>i==j||(match (opAt ops j).dst with
     | some d=>!((opAt ops i).looksAt ops).contains d||(if light.contains j then bit (Region.before ops) i j else !light.contains i||(bit (Region.before ops) i j||bit (Region.before ops) j i))
     | none=>true)))))
theorem ltB_ok (h:ltB ops light nt=true):Lt ops light nt:=by
 unfold ltB at h
 rw [List.all_eq_true] at h
 have key:∀i,i<ops.size->_:=fun i hi=>h i (List.mem_range.2 hi)
 simp only [Bool.and_eq_true] at key
 refine⟨fun i hl hi=>?_,fun i hi=>(key i hi).1,fun i j d hl hi hj hne hd hd'=>?_,fun i j d hl hi hj hne hd hlk=>?_,fun i h d hl hnl hi hh hd hlk=>?_,fun i hi e he hb=>?_,fun i d hi hd=>?_⟩
 · obtain⟨k1,k2,k3,k4,k5⟩:=key i hi
   refine⟨k1,?_⟩
   rw [List.contains_iff_mem.2 hl] at k4
   simp only [Bool.not_true,Bool.false_or] at k4
   cases hd:(opAt ops i).dst with
   | none=>rw [hd] at k4; simp at k4
   | some d =>
     rw [hd] at k4
     simp only [Bool.and_eq_true,Bool.not_eq_true'] at k4
     exact⟨d,rfl,fun hc=>by rw [List.contains_iff_mem.2 hc] at k4; exact absurd k4.1 (by decide)⟩
 · obtain⟨k1,k2,k3,k4,k5⟩:=key i hi
   rw [List.contains_iff_mem.2 hl] at k4
   simp only [Bool.not_true,Bool.false_or,hd,Bool.and_eq_true,List.all_eq_true] at k4
   have:=k4.2 j (List.mem_range.2 hj)
   rw [hd'] at this
   simp [hne] at this
 · obtain⟨k1,k2,k3,k4,k5⟩:=key i hi
   rw [List.all_eq_true] at k5
   have:=k5 j (List.mem_range.2 hj)
   rw [hd] at this
   simp only [List.contains_iff_mem.2 hlk,List.contains_iff_mem.2 hl,Bool.not_true,Bool.false_or,if_true] at this
   have hx:bit (Region.before ops) i j=true:=by simpa [hne] using this
   exact hx
 · obtain⟨k1,k2,k3,k4,k5⟩:=key i hi
   rw [List.all_eq_true] at k5
   have:=k5 h (List.mem_range.2 hh)
   have hne:i≠h:=fun e=>hnl (e▸hl)
   have hc:light.contains h=false:=by
    cases hx:light.contains h with
    | false=>rfl
    | true=>exact absurd (List.contains_iff_mem.1 hx) hnl
   rw [hd] at this
   simp only [List.contains_iff_mem.2 hlk,List.contains_iff_mem.2 hl,hc,Bool.not_true,Bool.false_or,Bool.false_eq_true,if_false] at this
   simp [hne] at this
   exact this
 · obtain⟨k1,k2,k3,k4,k5⟩:=key i hi
   have:=Array.all_eq_true'.1 k2 e he
   rw [hb] at this
   exact blt_ok (by simpa using this)
 · obtain⟨k1,k2,k3,k4,k5⟩:=key i hi
   rw [hd] at k3
   exact blt_ok k3
theorem satG_drew {B:Nat->Prop} {w0 w:World} {ι:En} {a:Act} (h:SatG n0 B w0 nt T hp nx G ι a w):SatG n0 B w0 nt T hp nx G ι a w.drew :=
 ⟨⟨h.1.1,fun ι' hι=>⟨(h.1.2 ι' hι).1,core_drew (h.1.2 ι' hι).2⟩⟩,fun b g hb=>(h.2.1 b g hb).keep rfl (fun h=>h),h.2.2.1,h.2.2.2⟩
theorem goesG_draw {K:Ex->Tm->Tr AO->Pz->GH->Prop} (hm:P.follows .mixedOrders=true) (f:Nat) (hl:ltB ops light nt=true) {id:Nat} (h:GDr P n0 nt ops light f [] [] T hp nx G (K .nrm)):GoesG P n0 nt (.region id ops true) T hp nx G K:=by
 intro B w0 w ι a hs Q hn
 refine wpIn_dr hm (ltB_ok hl) (hs.1.2 ι (Agree.refl _ _)).1.size (f:=f) ?_
 have:=h B w0 ι a w.drew (satG_drew hs) (Q .normal) fun T' hp' nx' G' ι2 a' w' k1 k4=>hn .nrm T' hp' nx' G' ι2 a' w' k1 k4
 simpa using this
structure Grow (n0:Nat) (G G':GH):Prop where
 new:∀b,(G' b).isSome=true->(G b).isSome=true∨n0<=b
 old:∀b,(G b).isSome=true->(G' b).isSome=true
theorem Grow.refl (n0:Nat) (G:GH):Grow n0 G G:=⟨fun b h=>.inl h,fun b h=>h⟩
theorem Grow.trans {G1 G2 G3:GH} (h:Grow n0 G1 G2) (h':Grow n0 G2 G3):Grow n0 G1 G3 :=
 ⟨fun b hb=>(h'.new b hb).elim (h.new b) .inr,fun b hb=>h'.old b (h.old b hb)⟩
def Spec (P:Program) (f:Nat) (args:List AV) (G:GH) (R:AV->GH->Prop):Prop :=
 ∀B w0 w ι (cargs:Array Value),Core B w0 ι .e w->GOk B G w->cargs=(renL ι args).toArray ->
  Gives P (callFunc f cargs) w fun cv w'=>∃v G',R v G'/\nf v/\cv=ren ι v/\Core B w0 ι .e w'/\GOk B G' w'/\(∀b,(G' b).isSome=true->(G b).isSome=true∨w.heap.size<=b)/\∀b,(G b).isSome=true->(G' b).isSome=true
theorem Spec.mono {f:Nat} {args:List AV} {R R':AV->GH->Prop} (h:Spec P f args G R) (hr:∀v G',R v G'->R' v G'):Spec P f args G R':=fun B w0 w ι cargs h1 h2 h3 =>
 (h B w0 w ι cargs h1 h2 h3).mono fun cv w' ⟨v,G',g1,g2⟩=>⟨v,G',hr _ _ g1,g2⟩
def ownB (hp:Tr AO) (ι:En) (b:Nat):Prop:=∃id o,hp.get id=some o/\own hp o/\ι.blk id=b
theorem core_frame {B:Nat->Prop} {w0 w w':World} {ι ι':En} (hw:Wf hp nx) (hι:Agree nx ι ι') (hc:Core B w0 ι' hp w) (hk:Kept (fun b=>B b∨ownB hp ι b) w w'):Core B w0 ι' hp w':=by
 refine⟨hc.below.trans (hk.mono fun k hk=>.inl hk),fun k hk'=>Nat.lt_of_lt_of_le (hc.room k hk') hk.size,fun id o hid=>?_,hc.base,hc.sep,hc.tip⟩
 refine (hc.obj id o hid).keep (fun h=>h) fun ho=>hk.block _ (.inr ⟨id,o,hid,ho,?_⟩)
 exact ((hι id (hw.lt id o hid)).1).symm
theorem GhOk.less {B B':Nat->Prop} {w:World} {b:Nat} {g:Gh} (h:GhOk B w b g) (hB:∀b,B' b->B b):GhOk B' w b g:=h.keep rfl (hB b)
theorem Spec.gives {f:Nat} {args:List AV} {R:AV->GH->Prop} (h:Spec P f args G R) (hargs:nfL args) {B:Nat->Prop} {w0 w:World} {ι:En} {a:Act} (hs:SatG n0 B w0 nt T hp nx G ι a w) {cargs:Array Value} (hc:cargs=(renL ι args).toArray) :
  Gives P (callFunc f cargs) w fun cv w'=>∃v G',R v G'/\nf v/\cv=ren ι v/\SatG n0 B w0 nt T hp nx G' ι a w'/\Grow n0 G G':=by
 obtain⟨hs1,hg,ho,hn,hb⟩:=hs
 have c0:=(hs1.2 ι (Agree.refl _ _)).2
 have no:∀{id:Pz} {o:AO} {p:Prop},(Tr.e:Tr AO).get id=some o->p:=fun h=>by rw [Tr.get_e] at h; cases h
 have ce:Core (fun b=>B b∨ownB hp ι b) w ι .e w:=by
  refine⟨Kept.refl _ _,fun k hk=>?_,fun id o h=>no h,fun id o h=>no h,fun id id' o o' _ h=>no h,fun id id' f ep es n el c f' ep' tp' es' n' el' c' _ h=>no h⟩
  rcases hk with hk | ⟨id,o,hid,hown,rfl⟩
  · exact c0.room k hk
  · exact own_blk hown (c0.obj id o hid)
 have hg':GOk (fun b=>B b∨ownB hp ι b) G w:=fun b g hb'=>by
  have hno:¬ownB hp ι b:=by
   rintro⟨id,o,hid,hown,rfl⟩
   rw [ho id o hid hown] at hb'; cases hb'
  exact (hg b g hb').keep rfl fun h=>h.resolve_right hno
 refine (h _ _ w ι cargs ce hg' hc).mono fun cv w' ⟨v,G',g1,g2,g3,g4,g5,g6,g7⟩=>⟨v,G',g1,g2,g3,?_,⟨fun b hb=>(g6 b hb).imp id fun h=>Nat.le_trans hn h,g7⟩⟩
 refine⟨⟨hs1.1,fun ι' hι=>⟨(hs1.2 ι' hι).1,core_frame hs1.1 hι (hs1.2 ι' hι).2 g4.below⟩⟩,fun b g hb'=>(g5 b g hb').less fun b hb=>.inl hb,fun id o hid hown=>?_,Nat.le_trans hn g4.below.size,fun b hlt hnone=>?_⟩
 · cases hgb:G' (ι.blk id) with
   | none=>rfl
   | some g =>
     rcases g6 _ (by rw [hgb]; rfl) with h | h
     · rw [ho id o hid hown] at h; cases h
     · exact absurd (own_blk hown (c0.obj id o hid)) (by omega)
 · refine hb b hlt ?_
   cases hgb:G b with
   | none=>rfl
   | some g =>
     have:=g7 b (by rw [hgb]; rfl)
     rw [hnone] at this; cases this
end
end Go.Rex
namespace Go.Rex
open Go.RowKit
section
variable {P:Program} {n0 nt:Nat} {T T2:Tm} {hp H:Tr AO} {nx X:Pz} {G:GH} {ops:Array Oper} {light:List Nat} {i m d:Nat} {v:AV}
def callC (o:Oper):Option (Operand × List Operand):=match o.op with
 | .call c=>match c.callee with | .value f=>some (f,c.args.toList) | _=>none
 | _=>none
end
end Go.Rex
