/- Part Xad of the proof of ScopeEnds: no condition. -/
import Derived.Test.YtmabojcaklojhaaGreatXac
set_option linter.unusedSimpArgs false
set_option linter.unusedVariables false
namespace Go.Rex
open Go.RowKit
section
variable {P:Program} {n0 nt:Nat} {T T2:Tm} {hp H:Tr AO} {nx X:Pz} {G:GH} {ops:Array Oper} {light:List Nat} {i m d:Nat} {v:AV}
theorem lvg_mk (hg:(opAt ops i).guard=none) (h:∀B w0 ι a w,SatG n0 B w0 nt T hp nx G ι a w->(execOp a.eval (opAt ops i)).run P w=.ok (.value (ren ι v)) w):LVG P ops n0 nt i T hp nx G v :=
 fun B w0 ι a w hs=>.inl ⟨by simp [Region.wanted,hg],h B w0 ι a w hs⟩
theorem satG_val {B:Nat->Prop} {w0 w:World} {ι:En} {a:Act} (hs:SatG n0 B w0 nt T hp nx G ι a w) (x:Nat) {u:AV} (hx:T.at x=u):a.eval (.tmp x)=ren ι u:=by
 show a.tmps.getD x undef=_
 rw [(hs.1.2 ι (Agree.refl _ _)).1.val x,hx]
theorem LVG.field {t ft:TypeId} {x f off b o:Nat} (hg:(opAt ops i).guard=none) (ho:(opAt ops i).op=.fieldAddr t (.tmp x) f) (hx:T.at x=.rpt b o) (hf:fieldOff P t f=some (off,ft)) (hz:Nat.beq (szOf P ft) 0=false) :
  LVG P ops n0 nt i T hp nx G (.rpt b (o+off)):=by
 refine lvg_mk hg fun B w0 ι a w hs=>?_
 obtain⟨fs,fd,h1,h2,h3,h4⟩:=fieldOff_ok hf
 have hz':=beq_no hz
 obtain⟨j,hj⟩:=info_of_sz hz'
 simp only [execOp,ho]
 rw [satG_val hs x hx]
 simp only [ren,Instr.fieldAt,Sem.run_bind,run_und h1,Result.andThen_ok,h2,Instr.sureAddr,Sem.run_pure,fieldPlace]
 rw [h4,run_size hj]
 simp only [Result.andThen_ok]
 rw [if_neg hz']
 simp only [Sem.run_pure,Result.andThen_ok,addr_add,h3,Nat.add_assoc]
theorem LVG.nil {x b o:Nat} (hg:(opAt ops i).guard=none) (ho:(opAt ops i).op=.nilCheck (.tmp x)) (hx:T.at x=.rpt b o):LVG P ops n0 nt i T hp nx G (.rpt b o):=by
 refine lvg_mk hg fun B w0 ι a w hs=>?_
 simp only [execOp,ho]
 rw [satG_val hs x hx]
 simp [ren]
theorem told_cells {B:Nat->Prop} {w0 w:World} {ι:En} {a:Act} {b:Nat} {wr:BK} {el:TypeId} {size:Nat} {C:List AV} (hs:SatG n0 B w0 nt T hp nx G ι a w) (hb:G b=some (.cells wr el size C)) (o:Nat) (ho:o<C.length) (hu:wr=.raw->C[o]?≠some undefA:=by exact fun h=>by cases h) :
  w.cell? ⟨b,o,none⟩=(C[o]?).map (ren ι):=by
 obtain⟨_,A,fz,h1,h2,h3,h4,h5⟩:=hs.2.1 b _ hb
 rw [cell_of h1,h4 o ho hu]
theorem LVG.loadA {t:TypeId} {x b o:Nat} {wr:BK} {el:TypeId} {size n:Nat} {C l:List AV} (hg:(opAt ops i).guard=none) (ho:(opAt ops i).op=.load t (.tmp x)) (hx:T.at x=.rpt b o) (ht:aggT P t=true) (hn:szOf P t=n)
  (hb:G b=some (.cells wr el size C)) (hle:o+n<=C.length) (hl:(C.drop o).take n=l) (hu:wr=.raw->undefA ∉ l:=by exact fun h=>by cases h):LVG P ops n0 nt i T hp nx G (.agg l):=by
 refine lvg_mk hg fun B w0 ι a w hs=>?_
 obtain⟨d,hd⟩:=aggT_und ht
 have hlen:l.length=n:=by rw [<-hl,List.length_take,List.length_drop]; omega
 simp only [execOp,ho]
 rw [satG_val hs x hx]
 simp only [ren,Instr.loadAt,Instr.sureAddr,loadVar,Sem.run_bind,Sem.run_pure,Result.andThen_ok,run_agg hd,ht,if_true,run_size_und hd,hn]
 rw [run_loadCells (l:=renL ι l) (by rw [renL_length,hlen]) fun j hj=>?_]
 · simp
 · rw [renL_length] at hj
   rw [told_cells hs hb _ (by omega) (fun hw he=>hu hw (by rw [<-hl]; exact List.mem_of_getElem? (i:=j) (by rw [List.getElem?_take_of_lt (by omega),List.getElem?_drop]; exact he))),renL_get,<-hl,List.getElem?_take_of_lt (by omega),List.getElem?_drop]
theorem LVG.loadO {t:TypeId} {x b o:Nat} {wr:BK} {el:TypeId} {size:Nat} {C:List AV} (hg:(opAt ops i).guard=none) (ho:(opAt ops i).op=.load t (.tmp x)) (hx:T.at x=.rpt b o) (hk:knownT P t=true) (ht:aggT P t=false)
  (hb:G b=some (.cells wr el size C)) (hl:C[o]?=some v) (hu:wr=.raw->v≠undefA:=by exact fun h=>by cases h):LVG P ops n0 nt i T hp nx G v:=by
 refine lvg_mk hg fun B w0 ι a w hs=>?_
 obtain⟨d,hd⟩:=known_und hk
 have hlt:o<C.length:=(List.getElem?_eq_some_iff.1 hl).1
 simp only [execOp,ho]
 rw [satG_val hs x hx]
 simp only [ren,Instr.loadAt,Instr.sureAddr,loadVar,Sem.run_bind,Sem.run_pure,Result.andThen_ok,run_agg hd,ht,Bool.false_eq_true,if_false]
 rw [run_load_cell (v:=ren ι v) (by rw [told_cells hs hb _ hlt (fun hw he=>hu hw (by rw [hl] at he; exact Option.some.inj he)),hl]; rfl)]
 simp
end
end Go.Rex
namespace Go.Rex
open Go.RowKit
def upd (G:GH) (b:Nat) (g:Gh):GH:=fun k=>if k=b then some g else G k
theorem upd_same (G:GH) (b:Nat) (g:Gh):upd G b g b=some g:=by simp [upd]
theorem upd_ne {G:GH} {b k:Nat} {g:Gh} (h:k≠b):upd G b g k=G k:=by simp [upd,h]
section
variable {P:Program} {n0 nt:Nat} {T T2:Tm} {hp H:Tr AO} {nx X:Pz} {G:GH} {ops:Array Oper} {light:List Nat} {i m d:Nat} {v:AV}
theorem satG_upd {B:Nat->Prop} {w0 w w':World} {ι:En} {a:Act} {b:Nat} {g:Gh} (hs:SatG n0 B w0 nt T hp nx G ι a w) (hk:Kept (fun k=>B k∨ownB hp ι k) w w') (hoth:∀k g',k≠b->G k=some g'->w'.heap[k]?=w.heap[k]?)
  (hg:GhOk B w' b g) (hb:∀id o,hp.get id=some o->own hp o->ι.blk id≠b):SatG n0 B w0 nt T hp nx (upd G b g) ι a w':=by
 obtain⟨hs1,hg1,ho,hn,hbb⟩:=hs
 refine⟨⟨hs1.1,fun ι' hι=>⟨(hs1.2 ι' hι).1,core_frame hs1.1 hι (hs1.2 ι' hι).2 hk⟩⟩,fun k g' hk'=>?_,fun id o hid hown=>?_,Nat.le_trans hn hk.size,fun k hlt hnone=>?_⟩
 · by_cases e:k=b
   · subst e; rw [upd_same] at hk'; cases hk'; exact hg
   · rw [upd_ne e] at hk'
     exact (hg1 k g' hk').keep (hoth k g' e hk') (fun h=>h)
 · rw [upd_ne (hb id o hid hown)]; exact ho id o hid hown
 · by_cases e:k=b
   · subst e; rw [upd_same] at hnone; cases hnone
   · rw [upd_ne e] at hnone; exact hbb k hlt hnone
theorem grow_upd {b:Nat} {g:Gh} (h:(G b).isSome=true∨n0<=b):Grow n0 G (upd G b g):=by
 refine⟨fun k hk=>?_,fun k hk=>?_⟩
 · by_cases e:k=b
   · subst e; exact h
   · rw [upd_ne e] at hk; exact .inl hk
 · by_cases e:k=b
   · subst e; rw [upd_same]; rfl
   · rw [upd_ne e]; exact hk
def SrcG (P:Program) (n0 nt:Nat) (T:Tm) (hp:Tr AO) (nx:Pz) (G:GH) (sz m:Nat) (v:AV) (E:List AV):Prop :=
 E.length=m*sz/\nfL E/\flat E=true/\∀B w0 ι a w,SatG n0 B w0 nt T hp nx G ι a w->(Builtin.lenOf (ren ι v)).run P w=.ok m w/\(Builtin.firstCells sz m (ren ι v)).run P w=.ok (renL ι E).toArray w
theorem satG_put {B:Nat->Prop} {w0 w:World} {ι:En} {a:Act} {cv:Value} (hs:SatG n0 B w0 nt T hp nx G ι a w) (hd:d<nt) (hv:nf v) (hc:cv=ren ι v):SatG n0 B w0 nt (T.put d v) hp nx G ι (a.put (some d) cv) w :=
 ⟨⟨hs.1.1,fun ι' hι=>⟨tmpOk_put (hs.1.2 ι' hι).1 hd (by rw [hc]; exact hv _ _),(hs.1.2 ι' hι).2⟩⟩,hs.2⟩
theorem satG_own {B:Nat->Prop} {w0 w:World} {ι:En} {a:Act} (hs:SatG n0 B w0 nt T hp nx G ι a w):∀id o,hp.get id=some o->own hp o->ι.blk id<w.heap.size:=fun id o hid ho=>own_blk ho ((hs.1.2 ι (Agree.refl _ _)).2.obj id o hid)
theorem satG_new {kd:BK} {B:Nat->Prop} {w0 w:World} {ι:En} {a:Act} {A:Array Value} {el:TypeId} {C:List AV} (hs:SatG n0 B w0 nt T hp nx G ι a w) (hC:nfL C) (hle:C.length<=A.size) (hA:∀i,i<C.length->A[i]?=(C[i]?).map (ren ι)) :
  SatG n0 B w0 nt T hp nx (upd G w.heap.size (.cells kd el A.size C)) ι a (w.drew.alloc (.cells A el (0,0)))/\n0<=w.heap.size/\G w.heap.size=none:=by
 have c0:=(hs.1.2 ι (Agree.refl _ _)).2
 have hroom:∀k,(B k∨ownB hp ι k)->k<w.heap.size:=fun k hk=>by
  rcases hk with hk | ⟨id,o,hid,hown,rfl⟩
  · exact c0.room k hk
  · exact satG_own hs id o hid hown
 refine⟨satG_upd hs ?_ (fun k g' hne hk=>?_) ?_ (fun id o hid hown e=>?_),hs.2.2.2.1,?_⟩
 · exact ((Kept.refl _ _).drew).alloc (fun k hk=>hroom k hk) _
 · exact Below.heap_alloc _ _ _ (hs.2.1 k g' hk).lt
 · refine⟨hC,A,(0,0),heap_alloc_at w.drew _,rfl,hle,fun i hi _ ι'=>?_,fun _=>⟨fun hb=>absurd (hroom _ (.inl hb)) (by omega),.inl rfl⟩⟩
   rw [hA i hi]
   cases hc:C[i]? with
   | none=>rfl
   | some u=>exact congrArg some (hC u (List.mem_of_getElem? hc) ι ι')
 · have:=satG_own hs id o hid hown
   omega
 · cases hg:G w.heap.size with
   | none=>rfl
   | some g=>exact absurd (hs.2.1 _ _ hg).lt (by omega)
end
end Go.Rex
namespace Go.Rex
open Go.RowKit
section
variable {P:Program} {n0 nt:Nat} {T T2:Tm} {hp H:Tr AO} {nx X:Pz} {G:GH} {ops:Array Oper} {light:List Nat} {i m d:Nat} {v:AV}
theorem srcG_nil {sz:Nat} (hv:v=.nils):SrcG P n0 nt T hp nx G sz 0 v []:=by
 subst hv
 exact⟨by simp,nfL_nil,rfl,fun B w0 ι a w hs=>⟨by simp [ren,Builtin.lenOf],by simp [ren,renL,Builtin.firstCells]⟩⟩
end
theorem flat_all {l:List AV} (h:∀v∈l,oneB v=true):flat l=true:=by
 induction l with
 | nil=>rfl
 | cons v l ih =>
   show Bool.rec (motive:=fun _=>Bool) false (flat l) (oneB v)=true
   rw [h v (by simp),ih fun x hx=>h x (by simp [hx])]
end Go.Rex


namespace Go.Rex
open Go.RowKit
def EvA (nt:Nat) (T:Tm) (x:Operand) (v:AV):Prop:=∀ι a,TmpOk ι nt T a->a.eval x=ren ι v
theorem ev_tmp {nt:Nat} {T:Tm} {x:Nat} {v:AV} (h:T.at x=v):EvA nt T (.tmp x) v:=fun ι a ha=>by
 show a.tmps.getD x undef=_
 rw [ha.val x,h]
def putL (C:List AV) (o:Nat) (l:List AV):List AV:=C.take o++l++C.drop (o+l.length)
theorem putL_length {C l:List AV} {o:Nat} (h:o+l.length<=C.length):(putL C o l).length=C.length:=by
 simp only [putL,List.length_append,List.length_take,List.length_drop]; omega
theorem putL_get {C l:List AV} {o:Nat} (h:o+l.length<=C.length) (k:Nat):(putL C o l)[k]?=if o<=k/\k<o+l.length then l[k-o]? else C[k]?:=by
 unfold putL
 by_cases h1:k<o
 · rw [if_neg (by omega),List.append_assoc,List.getElem?_append_left (by rw [List.length_take]; omega),List.getElem?_take_of_lt h1]
 · by_cases h2:k<o+l.length
   · rw [if_pos ⟨by omega,h2⟩,List.append_assoc,List.getElem?_append_right (by rw [List.length_take]; omega),List.getElem?_append_left (by rw [List.length_take]; omega),List.length_take,Nat.min_eq_left (by omega)]
   · rw [if_neg (by omega),List.getElem?_append_right (by rw [List.length_append,List.length_take]; omega),List.getElem?_drop]
     congr 1
     rw [List.length_append,List.length_take]; omega
end Go.Rex
namespace Go.Rex
open Go.RowKit
section
variable {P:Program} {n0 nt:Nat} {T T2:Tm} {hp H:Tr AO} {nx X:Pz} {G:GH} {ops:Array Oper} {light:List Nat} {i m d:Nat} {v u:AV}
def EvL (nt:Nat) (T:Tm):List Operand->List AV->Prop
 | [],[]=>True
 | x::xs,v::vs=>EvA nt T x v/\EvL nt T xs vs
 | _,_=>False
theorem EvL.map {ι:En} {a:Act} (ha:TmpOk ι nt T a):∀{xs:List Operand} {vs:List AV},EvL nt T xs vs->xs.map a.eval=renL ι vs
 | [],[],_=>rfl
 | x::xs,v::vs,h=>by
   simp only [List.map_cons,renL]
   rw [h.1 ι a ha,EvL.map ha h.2]
 | [],_::_,h=>h.elim
 | _::_,[],h=>h.elim
theorem exec_call {fo:Operand} {xs:List Operand} {f:Nat} {args:List AV} (hc:callC (opAt ops i)=some (fo,xs)) (hf:EvA nt T fo (.func (.func f) [] [])) (hargs:EvL nt T xs args) {w:World} {ι:En} {a:Act} (ht:TmpOk ι nt T a) :
  (execOp a.eval (opAt ops i)).run P w=(callFunc f (renL ι args).toArray).run P w:=by
 unfold callC at hc
 split at hc
 · rename_i c ho
   split at hc
   · rename_i f' hcal
     simp only [Option.some.injEq,Prod.mk.injEq] at hc
     obtain⟨rfl,rfl⟩:=hc
     have hargs':c.args.map a.eval=(renL ι args).toArray:=by rw [map_mk,hargs.map ht]
     simp only [execOp,ho,resolve,hcal,hargs',hf ι a ht,ren,renFn,renL,Deferred.ofValue,Sem.run_bind,Sem.run_pure,Result.andThen_ok,invoke]
     congr 2
     simp
   · cases hc
 · cases hc
theorem StG.callE {f:Nat} {args:List AV} {fo:Operand} {xs:List Operand} {R0:AV->GH->Prop} (hg:(opAt ops i).guard=none) (hd:(opAt ops i).dst=some d) (hlt:d<nt) (hc:callC (opAt ops i)=some (fo,xs)) (hf:EvA nt T fo (.func (.func f) [] [])) (hev:EvL nt T xs args)
  (hargs:nfL args) (hs:Spec P f args G R0) {R:Tm->Tr AO->Pz->GH->Prop} (hr:∀v G',R0 v G'->nf v->Grow n0 G G'->R (T.put d v) hp nx G'):StG P n0 nt ops i T hp nx G R:=by
 intro B w0 ι a w hsat
 have ht:=(hsat.1.2 ι (Agree.refl _ _)).1
 refine .inl ⟨by simp [Region.wanted,hg],?_⟩
 have hrun:=exec_call (P:=P) (w:=w) hc hf hev ht
 have:=hs.gives hargs hsat rfl
 have g:Gives P (callFunc f (renL ι args).toArray) w fun cv w'=>∃T' hp' nx' G' ι2,R T' hp' nx' G'/\SatG n0 B w0 nt T' hp' nx' G' ι2 (a.put (opAt ops i).dst cv) w':=by
  refine this.mono fun cv w' ⟨v,G',g1,g2,g3,g4,g5⟩=>⟨T.put d v,hp,nx,G',ι,hr v G' g1 g2 g5,?_⟩
  rw [hd]
  exact satG_put g4 hlt g2 g3
 unfold Gives at g ⊢
 rw [hrun]
 exact g
theorem StG.callE0 {f:Nat} {args:List AV} {fo:Operand} {xs:List Operand} {R0:AV->GH->Prop} (hg:(opAt ops i).guard=none) (hd:(opAt ops i).dst=none) (hc:callC (opAt ops i)=some (fo,xs)) (hf:EvA nt T fo (.func (.func f) [] [])) (hev:EvL nt T xs args)
  (hargs:nfL args) (hs:Spec P f args G R0) {R:Tm->Tr AO->Pz->GH->Prop} (hr:∀v G',R0 v G'->Grow n0 G G'->R T hp nx G'):StG P n0 nt ops i T hp nx G R:=by
 intro B w0 ι a w hsat
 have ht:=(hsat.1.2 ι (Agree.refl _ _)).1
 refine .inl ⟨by simp [Region.wanted,hg],?_⟩
 have hrun:=exec_call (P:=P) (w:=w) hc hf hev ht
 have:=hs.gives hargs hsat rfl
 have g:Gives P (callFunc f (renL ι args).toArray) w fun cv w'=>∃T' hp' nx' G' ι2,R T' hp' nx' G'/\SatG n0 B w0 nt T' hp' nx' G' ι2 (a.put (opAt ops i).dst cv) w':=by
  refine this.mono fun cv w' ⟨v,G',g1,g2,g3,g4,g5⟩=>⟨T,hp,nx,G',ι,hr v G' g1 g5,?_⟩
  rw [hd]
  exact g4
 unfold Gives at g ⊢
 rw [hrun]
 exact g
end
end Go.Rex





namespace Go.Rex
open Go.RowKit
def overL (C:List AV) (p:Nat) (l:List AV):List AV:=C.take p++l++C.drop (p+l.length)
theorem overL_get {C l:List AV} {p:Nat} (h:p<=C.length) (k:Nat):(overL C p l)[k]?=if p<=k/\k<p+l.length then l[k-p]? else C[k]?:=by
 unfold overL
 by_cases h1:k<p
 · rw [if_neg (by omega),List.append_assoc,List.getElem?_append_left (by rw [List.length_take]; omega),List.getElem?_take_of_lt h1]
 · by_cases h2:k<p+l.length
   · rw [if_pos ⟨by omega,h2⟩,List.append_assoc,List.getElem?_append_right (by rw [List.length_take]; omega),List.getElem?_append_left (by rw [List.length_take]; omega),List.length_take,Nat.min_eq_left (by omega)]
   · rw [if_neg (by omega),List.getElem?_append_right (by rw [List.length_append,List.length_take]; omega),List.getElem?_drop]
     congr 1
     rw [List.length_append,List.length_take]; omega
theorem overL_length {C l:List AV} {p:Nat} (h:p<=C.length):(overL C p l).length=max C.length (p+l.length):=by
 simp only [overL,List.length_append,List.length_take,List.length_drop]; omega
def Ext (G:GH) (v:AV) (el:TypeId) (sz len:Nat) (E:List AV):Prop :=
 (v=.nils/\len=0/\E=[])∨∃b o cap size C,v=.rsl b o len cap/\G b=some (.cells .data el size C)/\o+len*sz<=C.length/\(C.drop o).take (len*sz)=E/\o+cap*sz<=size/\len<=cap
def AppR (n0:Nat) (G G':GH) (v v':AV) (e:TypeId) (sz len m:Nat) (E L:List AV):Prop :=
 (v'=.nils/\G'=G/\len=0/\m=0/\v=.nils) ∨
 (∃b o cap size C,v=.rsl b o len cap/\G b=some (.cells .data e size C)/\v'=.rsl b o (len+m) cap/\len+m<=cap/\o+cap*sz<=size/\o+len*sz<=C.length/\G'=upd G b (.cells .data e size (overL C (o+len*sz) L))) ∨
 (∃b c' size,n0<=b/\G b=none/\v'=.rsl b 0 (len+m) c'/\len+m<=c'/\c'*sz<=size/\G'=upd G b (.cells .data e size (E++L)))
end Go.Rex
namespace Go.Rex
open Go.RowKit
inductive KK where | str | pair | int | ipair
def KeyF:KK->AV->Prop
 | .str,v=>∃l n,v=.str l n
 | .pair,v=>∃l n l' n',v=.agg [.str l n,.str l' n']
 | .int,v=>∃n,v=.int .i64 n
 | .ipair,v=>∃n n',v=.agg [.int .i64 n,.int .i64 n']
def keyEq:AV->AV->Bool
 | .str l n,.str l' n'=>strEq l n l' n'
 | .agg [.str a b,.str c d],.agg [.str a' b',.str c' d']=>strEq a b a' b'&&strEq c d c' d'
 | .int _ n,.int _ n'=>n==n'
 | .agg [.int _ a,.int _ b],.agg [.int _ a',.int _ b']=>a==a'&&b==b'
 | _,_=>false
theorem KeyF.nf {pk:KK} {v:AV} (h:KeyF pk v):nf v:=by
 cases pk with
 | str=>obtain⟨l,n,rfl⟩:=h; exact nf_str _ _
 | pair=>obtain⟨a,b,c,d,rfl⟩:=h; exact nf_agg (nfL_cons (nf_str _ _) (nfL_cons (nf_str _ _) nfL_nil))
 | int=>obtain⟨n,rfl⟩:=h; exact nf_int _ _
 | ipair=>obtain⟨a,b,rfl⟩:=h; exact nf_agg (nfL_cons (nf_int _ _) (nfL_cons (nf_int _ _) nfL_nil))
structure MapT (P:Program) (kt:TypeId) (pk:KK):Prop where
 und:∃d,P.underlying kt=some d
 eq:∀a b,KeyF pk a->KeyF pk b->EqIs P 9 kt a b (keyEq a b)
 chk:∀v,KeyF pk v->∀e ι w,(Instr.checkKey e 10000 kt (ren ι v)).run P w=.ok () w
theorem key_bits {pk:KK} {a b:AV} (ha:KeyF pk a) (hb:KeyF pk b) (h:keyEq a b=true):bitsF a b=true:=by
 cases pk with
 | str=>obtain⟨l,n,rfl⟩:=ha; obtain⟨l',n',rfl⟩:=hb; exact h
 | pair =>
   obtain⟨a,b,c,d,rfl⟩:=ha; obtain⟨a',b',c',d',rfl⟩:=hb
   have h:(strEq a b a' b'&&strEq c d c' d')=true:=h
   show (strEq a b a' b'&&(strEq c d c' d'&&true))=true
   rw [Bool.and_true]; exact h
 | int =>
   obtain⟨n,rfl⟩:=ha; obtain⟨n',rfl⟩:=hb
   have h:(n==n')=true:=h
   rw [beq_iff_eq] at h; subst h
   simp [bitsF,bits1,kindEq]
 | ipair =>
   obtain⟨a,b,rfl⟩:=ha; obtain⟨a',b',rfl⟩:=hb
   have h:(a==a'&&b==b')=true:=h
   rw [Bool.and_eq_true,beq_iff_eq,beq_iff_eq] at h
   obtain⟨rfl,rfl⟩:=h
   simp [bitsF,bitsL,bits1,kindEq]
theorem strEq_comm (l n l' n':Nat):strEq l n l' n'=strEq l' n' l n:=by
 rw [strEq_iff,strEq_iff]; exact Bool.eq_iff_iff.2 ⟨fun h=>by rw [beq_iff_eq] at h ⊢; exact h.symm,fun h=>by rw [beq_iff_eq] at h ⊢; exact h.symm⟩
theorem strEq_refl (l n:Nat):strEq l n l n=true:=by rw [strEq_iff]; simp
theorem strEq_trans {l n l' n' l2 n2:Nat} (h:strEq l n l' n'=true):strEq l n l2 n2=strEq l' n' l2 n2:=by
 rw [strEq_iff,beq_iff_eq] at h
 rw [strEq_iff,strEq_iff,h]
theorem keyEq_refl {pk:KK} {a:AV} (ha:KeyF pk a):keyEq a a=true:=by
 cases pk with
 | str=>obtain⟨l,n,rfl⟩:=ha; exact strEq_refl _ _
 | pair=>obtain⟨a,b,c,d,rfl⟩:=ha; show (strEq a b a b&&strEq c d c d)=true; rw [strEq_refl,strEq_refl]; rfl
 | int=>obtain⟨n,rfl⟩:=ha; show (n==n)=true; simp
 | ipair=>obtain⟨a,b,rfl⟩:=ha; show (a==a&&b==b)=true; simp
theorem keyEq_comm {pk:KK} {a b:AV} (ha:KeyF pk a) (hb:KeyF pk b):keyEq a b=keyEq b a:=by
 cases pk with
 | str=>obtain⟨l,n,rfl⟩:=ha; obtain⟨l',n',rfl⟩:=hb; exact strEq_comm _ _ _ _
 | pair =>
   obtain⟨a,b,c,d,rfl⟩:=ha; obtain⟨a',b',c',d',rfl⟩:=hb
   show (strEq a b a' b'&&strEq c d c' d')=(strEq a' b' a b&&strEq c' d' c d)
   rw [strEq_comm a,strEq_comm c]
 | int=>obtain⟨n,rfl⟩:=ha; obtain⟨n',rfl⟩:=hb; exact BEq.comm
 | ipair=>obtain⟨a,b,rfl⟩:=ha; obtain⟨a',b',rfl⟩:=hb; show (a==a'&&b==b')=(a'==a&&b'==b); rw [BEq.comm (a:=a),BEq.comm (a:=b)]
theorem keyEq_trans {pk:KK} {a b x:AV} (ha:KeyF pk a) (hb:KeyF pk b) (hx:KeyF pk x) (h:keyEq a b=true):keyEq a x=keyEq b x:=by
 cases pk with
 | str=>obtain⟨l,n,rfl⟩:=ha; obtain⟨l',n',rfl⟩:=hb; obtain⟨l2,n2,rfl⟩:=hx; exact strEq_trans h
 | pair =>
   obtain⟨a,b,c,d,rfl⟩:=ha; obtain⟨a',b',c',d',rfl⟩:=hb; obtain⟨a2,b2,c2,d2,rfl⟩:=hx
   have h:(strEq a b a' b'&&strEq c d c' d')=true:=h
   rw [Bool.and_eq_true] at h
   show (strEq a b a2 b2&&strEq c d c2 d2)=(strEq a' b' a2 b2&&strEq c' d' c2 d2)
   rw [strEq_trans h.1,strEq_trans h.2]
 | int =>
   obtain⟨n,rfl⟩:=ha; obtain⟨n',rfl⟩:=hb; obtain⟨n2,rfl⟩:=hx
   have h:(n==n')=true:=h
   rw [beq_iff_eq] at h; subst h; rfl
 | ipair =>
   obtain⟨a,b,rfl⟩:=ha; obtain⟨a',b',rfl⟩:=hb; obtain⟨a2,b2,rfl⟩:=hx
   have h:(a==a'&&b==b')=true:=h
   rw [Bool.and_eq_true,beq_iff_eq,beq_iff_eq] at h
   obtain⟨rfl,rfl⟩:=h; rfl
def findA (k:AV):List (AV × AV)->Option AV
 | []=>none
 | p::es=>bif keyEq k p.1 then some p.2 else findA k es
def putA (k v:AV):List (AV × AV)->List (AV × AV)
 | []=>[(k,v)]
 | p::es=>bif keyEq k p.1 then (p.1,v)::es else p::putA k v es
theorem findA_put {pk:KK} {k v x:AV} (hk:KeyF pk k) (hx:KeyF pk x):∀{es:List (AV × AV)},(∀p∈es,KeyF pk p.1)->findA x (putA k v es)=if keyEq x k=true then some v else findA x es
 | [],_=>by
   show (bif keyEq x k then some v else none)=_
   cases keyEq x k<;>rfl
 | p::es,h=>by
   have hp:=h p (List.mem_cons_self ..)
   have ih:=findA_put hk hx (v:=v) (es:=es) fun q hq=>h q (List.mem_cons_of_mem _ hq)
   have hs:keyEq k p.1=true->keyEq x k=keyEq x p.1:=fun e=>by
    rw [keyEq_comm hx hk,keyEq_comm hx hp]
    exact keyEq_trans hk hp hx e
   cases hkp:keyEq k p.1 with
   | true =>
     have e1:putA k v (p::es)=(p.1,v)::es:=by show (bif keyEq k p.1 then _ else _)=_; rw [hkp]; rfl
     rw [e1,hs hkp]
     show (bif keyEq x p.1 then some v else findA x es)=if keyEq x p.1=true then some v else bif keyEq x p.1 then some p.2 else findA x es
     cases keyEq x p.1<;>rfl
   | false =>
     have e1:putA k v (p::es)=p::putA k v es:=by show (bif keyEq k p.1 then _ else _)=_; rw [hkp]; rfl
     rw [e1]
     show (bif keyEq x p.1 then some p.2 else findA x (putA k v es))=if keyEq x k=true then some v else bif keyEq x p.1 then some p.2 else findA x es
     rw [ih]
     cases hxp:keyEq x p.1 with
     | true =>
       have:keyEq x k=false:=by
        cases hxk:keyEq x k with
        | false=>rfl
        | true =>
          have:=keyEq_trans hx hk hp hxk
          rw [hxp,hkp] at this; cases this
       rw [this]; rfl
     | false=>cases keyEq x k<;>rfl
theorem putA_key {pk:KK} {k v:AV} (hk:KeyF pk k):∀{es:List (AV × AV)},(∀p∈es,KeyF pk p.1)->∀p∈putA k v es,KeyF pk p.1
 | [],_,p,h=>by rw [List.mem_singleton.1 h]; exact hk
 | q::es,h0,p,h=>by
   have h:p∈(bif keyEq k q.1 then (q.1,v)::es else q::putA k v es):=h
   cases hq:keyEq k q.1 with
   | true =>
     rw [hq] at h
     rcases List.mem_cons.1 h with rfl | h
     · exact h0 q (List.mem_cons_self ..)
     · exact h0 p (List.mem_cons_of_mem _ h)
   | false =>
     rw [hq] at h
     rcases List.mem_cons.1 h with rfl | h
     · exact h0 _ (List.mem_cons_self ..)
     · exact putA_key hk (fun r hr=>h0 r (List.mem_cons_of_mem _ hr)) p h
theorem putA_mem {k v:AV}:∀{es:List (AV × AV)} {p:AV × AV},p∈putA k v es->p.2=v∨p∈es
 | [],p,h=>by rw [List.mem_singleton.1 h]; exact .inl rfl
 | q::es,p,h=>by
   have h:p∈(bif keyEq k q.1 then (q.1,v)::es else q::putA k v es):=h
   cases hq:keyEq k q.1 with
   | true =>
     rw [hq] at h
     rcases List.mem_cons.1 h with rfl | h
     · exact .inl rfl
     · exact .inr (List.mem_cons_of_mem _ h)
   | false =>
     rw [hq] at h
     rcases List.mem_cons.1 h with rfl | h
     · exact .inr (List.mem_cons_self ..)
     · exact (putA_mem h).imp_right (List.mem_cons_of_mem _)
theorem findA_mem {k v:AV}:∀{es:List (AV × AV)},findA k es=some v->∃p∈es,p.2=v
 | [],h=>by cases h
 | p::es,h=>by
   have h:(bif keyEq k p.1 then some p.2 else findA k es)=some v:=h
   cases hq:keyEq k p.1 with
   | true=>rw [hq] at h; exact⟨p,List.mem_cons_self ..,Option.some.inj h⟩
   | false =>
     rw [hq] at h
     obtain⟨q,h1,h2⟩:=findA_mem h
     exact⟨q,List.mem_cons_of_mem _ h1,h2⟩
def bornL:List (AV × AV)->List MapEntry->List ME
 | p::es,e::E=>⟨p.1,p.2,e.born⟩::bornL es E
 | _,_=>[]
theorem bornL_ok:∀{es:List (AV × AV)} {E:List MapEntry} {ι:En},E.map (fun e=>(e.key,e.val))=es.map (fun e=>(ren ι e.1,ren ι e.2))->E=(bornL es E).map (entR ι)/\(bornL es E).map (fun e=>(e.key,e.val))=es
 | [],[],_,_=>⟨rfl,rfl⟩
 | [],_::_,_,h=>by cases h
 | _::_,[],_,h=>by cases h
 | p::es,e::E,ι,h=>by
   rw [List.map_cons,List.map_cons,List.cons.injEq] at h
   obtain⟨h1,h2⟩:=h
   obtain⟨i1,i2⟩:=bornL_ok h2
   rw [Prod.mk.injEq] at h1
   refine⟨?_,by show (p.1,p.2)::_=_; rw [i2]⟩
   show e::E=entR ι ⟨p.1,p.2,e.born⟩::(bornL es E).map (entR ι)
   rw [<-i1]
   congr 1
   cases e with
   | mk k v b=>simp only [entR] at h1 ⊢; rw [h1.1,h1.2]
theorem found_none {P:Program} {kt:TypeId} {pk:KK} {k:AV} (hM:MapT P kt pk) (hk:KeyF pk k):∀{es:List ME},(∀e∈es,KeyF pk e.key)->findA k (es.map fun e=>(e.key,e.val))=none->Found P kt k es none
 | [],_,_=>fun e he=>by cases he
 | x::es,h0,h=>by
   have h:(bif keyEq k x.key then some x.val else findA k (es.map fun e=>(e.key,e.val)))=none:=h
   cases hq:keyEq k x.key with
   | true=>rw [hq] at h; cases h
   | false =>
     rw [hq] at h
     intro e he
     rcases List.mem_cons.1 he with rfl | he
     · rw [<-hq]; exact hM.eq _ _ hk (h0 _ (List.mem_cons_self ..))
     · exact found_none hM hk (fun e he=>h0 e (List.mem_cons_of_mem _ he)) h e he
theorem found_some {P:Program} {kt:TypeId} {pk:KK} {k v:AV} (hM:MapT P kt pk) (hk:KeyF pk k):∀{es:List ME},(∀e∈es,KeyF pk e.key)->findA k (es.map fun e=>(e.key,e.val))=some v ->
  ∃pre e post,es=pre++e::post/\e.val=v/\keyEq k e.key=true/\(∀x∈pre,keyEq k x.key=false)/\Found P kt k es (some (pre.length,e))
 | [],_,h=>by cases h
 | x::es,h0,h=>by
   have h:(bif keyEq k x.key then some x.val else findA k (es.map fun e=>(e.key,e.val)))=some v:=h
   cases hq:keyEq k x.key with
   | true =>
     rw [hq] at h
     exact⟨[],x,es,rfl,Option.some.inj h,hq,(fun _ h=>by cases h),[],es,rfl,rfl,(fun _ h=>by cases h),by rw [<-hq]; exact hM.eq _ _ hk (h0 _ (List.mem_cons_self ..))⟩
   | false =>
     rw [hq] at h
     obtain⟨pre,e,post,h1,h2,h3,h4,pre',post',h5,h6,h7,h8⟩:=found_some hM hk (fun e he=>h0 e (List.mem_cons_of_mem _ he)) h
     have hn:EqIs P 9 kt k x.key false:=by rw [<-hq]; exact hM.eq _ _ hk (h0 _ (List.mem_cons_self ..))
     refine⟨x::pre,e,post,by rw [h1]; rfl,h2,h3,fun y hy=>?_,x::pre',post',by rw [h5]; rfl,by rw [List.length_cons,List.length_cons,h6],fun y hy=>?_,h8⟩
     · rcases List.mem_cons.1 hy with rfl | hy
       · exact hq
       · exact h4 y hy
     · rcases List.mem_cons.1 hy with rfl | hy
       · exact hn
       · exact h7 y hy
theorem putA_new {k v:AV}:∀{es:List (AV × AV)},findA k es=none->putA k v es=es++[(k,v)]
 | [],_=>rfl
 | p::es,h=>by
   have h:(bif keyEq k p.1 then some p.2 else findA k es)=none:=h
   show (bif keyEq k p.1 then (p.1,v)::es else p::putA k v es)=_
   cases hq:keyEq k p.1 with
   | true=>rw [hq] at h; cases h
   | false=>rw [hq] at h; rw [cond_false,putA_new h]; rfl
theorem putA_old {k v:AV}:∀{pre post:List (AV × AV)} {e:AV × AV},(∀x∈pre,keyEq k x.1=false)->keyEq k e.1=true->putA k v (pre++e::post)=pre++(e.1,v)::post
 | [],post,e,_,h=>by show (bif keyEq k e.1 then _ else _)=_; rw [h]; rfl
 | p::pre,post,e,h0,h=>by
   show (bif keyEq k p.1 then _ else p::putA k v (pre++e::post))=_
   rw [h0 p (List.mem_cons_self ..),cond_false,putA_old (fun x hx=>h0 x (List.mem_cons_of_mem _ hx)) h]; rfl
section
variable {P:Program} {n0 nt:Nat} {T T2:Tm} {hp H:Tr AO} {nx X:Pz} {G:GH} {ops:Array Oper} {light:List Nat} {i m d:Nat} {v u:AV}
theorem LVG.lookup {t kt et:TypeId} {ym yk:Operand} {ok:Bool} {pk:KK} {z k:AV} {b:Nat} {es:List (AV × AV)} (hg:(opAt ops i).guard=none) (ho:(opAt ops i).op=.lookup t ym yk ok) (hu:P.underlying t=some (.map kt et)) (hz:zeroOf P et=some z) (hM:MapT P kt pk)
  (hm:EvA nt T ym (.rmp b)) (hk:EvA nt T yk k) (hkf:KeyF pk k) (hb:G b=some (.map es)) (hes:∀p∈es,KeyF pk p.1) :
  LVG P ops n0 nt i T hp nx G (match findA k es with | some v=>(if ok then .tup [v,.bool true] else v) | none=>(if ok then .tup [z,.bool false] else z)):=by
 refine lvg_mk hg fun B w0 ι a w hs=>?_
 have hval:=(hs.1.2 ι (Agree.refl _ _)).1
 obtain⟨_,E,clock,h1,h2,h3⟩:=hs.2.1 b _ hb
 obtain⟨i1,i2⟩:=bornL_ok (h3 ι)
 obtain⟨dd,hd⟩:=hM.und
 obtain⟨_,zv,_,_,_,hzero⟩:=zeroOf_ok hz
 have hkeys:∀e∈bornL es E.toList,KeyF pk e.key:=fun e he=>by
  have:(e.key,e.val)∈(bornL es E.toList).map (fun e=>(e.key,e.val)):=List.mem_map.2 ⟨e,he,rfl⟩
  rw [i2] at this
  exact hes _ this
 simp only [execOp,ho,Sem.run_bind]
 rw [hm ι a hval,hk ι a hval]
 cases hf:findA k es with
 | none =>
   have hfind:=find_ok (ι:=ι) (w:=w) hd (found_none hM hkf hkeys (by rw [i2]; exact hf))
   rw [<-i1] at hfind
   simp only [ren,Instr.lookup,Sem.run_bind,run_und hu,Result.andThen_ok,run_getMap h1,Sem.run_pure,hM.chk k hkf,hfind,foundV,hzero ι]
   cases ok<;>simp [ren,renL]
 | some v =>
   obtain⟨pre,e,post,e1,e2,e3,e4,hfd⟩:=found_some hM hkf hkeys (by rw [i2]; exact hf)
   have hfind:=find_ok (ι:=ι) (w:=w) hd hfd
   rw [<-i1] at hfind
   subst e2
   simp only [ren,Instr.lookup,Sem.run_bind,run_und hu,Result.andThen_ok,run_getMap h1,Sem.run_pure,hM.chk k hkf,hfind,foundV,hzero ι]
   cases ok<;>simp [ren,renL]
theorem putMap_ne {w:World} {b k:Nat} {E:Array MapEntry} {cl:Nat} (h:k≠b):(putMap w b E cl).heap[k]?=w.heap[k]?:=by
 show (w.heap.setIfInBounds _ _)[k]?=_
 rw [Array.getElem?_setIfInBounds_ne (fun e=>h e.symm)]
theorem StG.mapUpd {t kt et:TypeId} {ym yk yv:Operand} {pk:KK} {k:AV} {b:Nat} {es:List (AV × AV)} {R:Tm->Tr AO->Pz->GH->Prop} (hg:(opAt ops i).guard=none) (hd0:(opAt ops i).dst=none) (ho:(opAt ops i).op=.mapUpdate t ym yk yv) (hu:P.underlying t=some (.map kt et)) (hM:MapT P kt pk)
  (hm:EvA nt T ym (.rmp b)) (hk:EvA nt T yk k) (hx:EvA nt T yv v) (hkf:KeyF pk k) (hnf:nf v) (hb:G b=some (.map es)) (hes:∀p∈es,KeyF pk p.1)
  (hr:R T hp nx (upd G b (.map (putA k v es)))):StG P n0 nt ops i T hp nx G R:=by
 intro B w0 ι a w hs
 refine .inl ⟨by simp [Region.wanted,hg],?_⟩
 rw [hd0]
 have hval:=(hs.1.2 ι (Agree.refl _ _)).1
 obtain⟨hnB,E,clock,h1,h2,h3⟩:=hs.2.1 b _ hb
 obtain⟨i1,i2⟩:=bornL_ok (h3 ι)
 obtain⟨dd,hd⟩:=hM.und
 have hkeys:∀e∈bornL es E.toList,KeyF pk e.key:=fun e he=>by
  have:(e.key,e.val)∈(bornL es E.toList).map (fun e=>(e.key,e.val)):=List.mem_map.2 ⟨e,he,rfl⟩
  rw [i2] at this
  exact hes _ this
 have hnb:∀id ob,hp.get id=some ob->own hp ob->ι.blk id≠b:=fun id ob hid hown e=>by
  have:=hs.2.2.1 id ob hid hown
  rw [e,hb] at this; cases this
 have hlt:=(Array.getElem?_eq_some_iff.1 h1).1
 -- what the write leaves
 have done:∀(E':Array MapEntry) (cl':Nat),(execOp a.eval (opAt ops i)).run P w=.ok .skip (putMap w b E' cl')->E'.toList.map (fun e=>(e.key,e.val))=(putA k v es).map (fun e=>(ren ι e.1,ren ι e.2)) ->
   Gives P (execOp a.eval (opAt ops i)) w fun cv w'=>∃T' hp' nx' G' ι2,R T' hp' nx' G'/\SatG n0 B w0 nt T' hp' nx' G' ι2 (a.put none cv) w':=by
  intro E' cl' hrun hE'
  have hkept:Kept (fun k=>B k∨ownB hp ι k) w (putMap w b E' cl'):=by
   refine⟨rfl,rfl,rfl,by simp [putMap],fun q hq=>putMap_ne (fun e=>?_)⟩
   subst e
   rcases hq with hB | ⟨id,ob,hid,hown,e⟩
   · exact hnB hB
   · exact hnb id ob hid hown e
  have hnf2:∀e∈putA k v es,nf e.1/\nf e.2:=fun e he=>by
   refine⟨(putA_key hkf hes e he).nf,?_⟩
   rcases putA_mem he with h | h
   · rw [h]; exact hnf
   · exact (h2 e h).2
  have hgh:GhOk B (putMap w b E' cl') b (.map (putA k v es)):=by
   refine⟨hnB,E',cl',?_,hnf2,fun ι'=>?_⟩
   · show (w.heap.setIfInBounds _ _)[b]?=_
     simp [hlt]
   · rw [hE']
     refine List.map_congr_left fun e he=>?_
     rw [(hnf2 e he).1 ι ι',(hnf2 e he).2 ι ι']
  have hsn:=satG_upd (b:=b) (g:=.map (putA k v es)) hs hkept (fun q g' hne _=>putMap_ne hne) hgh hnb
  exact .inl ⟨undef,_,.inr ⟨hrun,rfl⟩,_,_,_,_,ι,hr,hsn⟩
 cases hf:findA k es with
 | none =>
   have hfind:=find_ok (ι:=ι) (w:=w) hd (found_none hM hkf hkeys (by rw [i2]; exact hf))
   rw [<-i1] at hfind
   refine done (E.push ⟨ren ι k,ren ι v,clock⟩) (clock+1) ?_ ?_
   · simp only [execOp,ho,Sem.run_bind]
     rw [hm ι a hval,hk ι a hval,hx ι a hval]
     simp only [ren,Instr.mapUpdate,Sem.run_bind,run_und hu,Result.andThen_ok,run_getMap h1,hM.chk k hkf,hfind,foundV,run_setMap h1,Sem.run_pure]
   · rw [putA_new hf,Array.toList_push,List.map_append,List.map_append,h3 ι]; rfl
 | some v0 =>
   obtain⟨pre,e,post,e1,e2,e3,e4,hfd⟩:=found_some hM hkf hkeys (by rw [i2]; exact hf)
   have hfind:=find_ok (ι:=ι) (w:=w) hd hfd
   rw [<-i1] at hfind
   have hat:=found_at hfd
   obtain⟨hb1,hb2⟩:=bitsF_ok (key_bits (hkeys e (by rw [e1]; simp)) hkf (by
    have:=keyEq_trans hkf (hkeys e (by rw [e1]; simp)) hkf e3
    rw [keyEq_refl hkf] at this; exact this.symm)) ι
   refine done (E.modify pre.length fun y=>{ y with key:=ren ι k,val:=ren ι v }) clock ?_ ?_
   · simp only [execOp,ho,Sem.run_bind]
     rw [hm ι a hval,hk ι a hval,hx ι a hval]
     simp only [ren,Instr.mapUpdate,Sem.run_bind,run_und hu,Result.andThen_ok,run_getMap h1,hM.chk k hkf,hfind,foundV,Nat.zero_add,E_at i1 hat,Option.map_some,Option.getD_some,Instr.keyThatStays]
     rw [show (entR ι e).key=ren ι e.key from rfl,hb2]
     simp only [if_true,Sem.run_pure,Result.andThen_ok,run_setMap h1]
   · rw [mod_list _ _ _ _ i1,entR_modify ι v _ _ _ e hat hb1.symm]
     have:es=pre.map (fun e=>(e.key,e.val))++(e.key,e.val)::post.map (fun e=>(e.key,e.val)):=by rw [<-i2,e1]; simp
     have hput:putA k v es=pre.map (fun e=>(e.key,e.val))++(e.key,v)::post.map (fun e=>(e.key,e.val)):=by
      rw [this]; exact putA_old (fun x hx=>by obtain⟨y,hy,rfl⟩:=List.mem_map.1 hx; exact e4 y hy) e3
     rw [hput,e1]
     simp [entR]
     rfl
end
end Go.Rex
namespace Go.Rex
open Go.RowKit
section
variable {P:Program} {n0 nt:Nat} {T T2:Tm} {hp H:Tr AO} {nx X:Pz} {G:GH} {ops:Array Oper} {light:List Nat} {i m d:Nat} {v u:AV}
theorem LVG.strIdx {t:TypeId} {yx yi:Operand} {kd:IntKind} {l n j:Nat} (hg:(opAt ops i).guard=none) (ho:(opAt ops i).op=.index t yx yi) (hu:P.underlying t=some .string) (hx:EvA nt T yx (.str l n)) (hi:EvA nt T yi (.int kd (.ofNat j))) (hlt:j<l) :
  LVG P ops n0 nt i T hp nx G (.int .u8 (.ofNat (Nat.mod (Nat.div n (pow8 (Nat.sub l (j+1)))) 256))):=by
 refine lvg_mk hg fun B w0 ι a w hs=>?_
 have ha:=(hs.1.2 ι (Agree.refl _ _)).1
 simp only [execOp,ho]
 rw [hx ι a ha,hi ι a ha,ren_int,ren_int]
 simp only [ren,Instr.index,asIntOf,Sem.run_bind,Sem.run_pure,Result.andThen_ok,run_und hu]
 have hget:(ByteArray.mk (bytesOf l n).toArray)[j]?=some (UInt8.ofNat (n/256 ^ (l-(j+1))%256)):=by
  have:=bytesOf_get l n j hlt
  have hsz:j<(ByteArray.mk (bytesOf l n).toArray).size:=by show j<(bytesOf l n).toArray.size; simp [bytesOf_length,hlt]
  rw [getElem?_pos _ j hsz]
  have hsz':j<(bytesOf l n).length:=by rw [bytesOf_length]; exact hlt
  rw [List.getElem?_eq_getElem hsz'] at this
  rw [<-Option.some.inj this]
  rfl
 rw [if_pos (by omega)]
 simp only [Int.toNat_natCast,hget,Sem.run_pure,Result.andThen_ok]
 rw [pow8_eq]
 congr 4
 simp only [UInt8.toNat_ofNat']
 show n/256 ^ (l-(j+1))%256%2 ^ 8=n/256 ^ (l-(j+1))%256
 omega
theorem bd_tmp {x h d0:Nat} {kd:IntKind} (hx:T.at x=.int kd (.ofNat h)):Bd T (some (.tmp x)) d0 h:=.inr ⟨.tmp x,kd,rfl,fun ι nt a ha=>by
 show a.tmps.getD x undef=_
 rw [ha.val x,hx,ren_int]⟩
theorem LVG.strTo {t:TypeId} {yx:Operand} {x l n h:Nat} {kd:IntKind} (hg:(opAt ops i).guard=none) (ho:(opAt ops i).op=.slice t yx none (some (.tmp x)) none) (hu:P.underlying t=some .string) (hx:EvA nt T yx (.str l n)) (hh:T.at x=.int kd (.ofNat h)) (hle:h<=l) :
  LVG P ops n0 nt i T hp nx G (.str h (Nat.div n (pow8 (Nat.sub l h)))):=by
 refine lvg_mk hg fun B w0 ι a w hs=>?_
 have ha:=(hs.1.2 ι (Agree.refl _ _)).1
 have hsz:(ByteArray.mk (bytesOf l n).toArray).size=l:=by show (bytesOf l n).toArray.size=l; simp [bytesOf_length]
 have hb:=bounds_ok (P:=P) (w:=w) (lo:=none) (hi:=some (.tmp x)) (b:=false) (len:=l) (cap:=l) ha (bd_tmp hh) (.inl ⟨rfl,rfl⟩) (Nat.zero_le h) hle
 simp only [Option.map_none,Option.map_some] at hb
 simp only [execOp,ho]
 rw [hx ι a ha]
 simp only [ren,Option.map_none,Option.map_some,Instr.sliceAt,Instr.slice,Sem.run_bind,run_und hu,Result.andThen_ok,Option.isSome_none,Bool.false_eq_true,if_false,Sem.run_pure]
 rw [hsz,hb]
 simp only [Result.andThen_ok,Sem.run_pure,Result.ok.injEq,and_true,Next.value.injEq,Value.string.injEq]
 apply ByteArray.ext
 rw [ByteArray.data_extract]
 apply Array.ext'
 simp only [Array.toList_extract,pow8_eq]
 have e1:bytesOf h (n/256 ^ (l-h))=(bytesOf l n).take h:=by
  have:=bytesOf_take (l-h) h n
  rw [show h+(l-h)=l by omega] at this
  exact this
 show _=bytesOf h (n/256 ^ (l-h))
 rw [e1]
 simp
theorem LVG.slTo {t el:TypeId} {yx:Operand} {x b len cap h:Nat} {kd:IntKind} (hg:(opAt ops i).guard=none) (ho:(opAt ops i).op=.slice t yx none (some (.tmp x)) none) (hu:P.underlying t=some (.slice el)) (hi:(P.info? el).isSome=true) (hx:EvA nt T yx (.rsl b 0 len cap)) (hh:T.at x=.int kd (.ofNat h)) (hle:h<=cap) :
  LVG P ops n0 nt i T hp nx G (.rsl b 0 h cap):=by
 refine lvg_mk hg fun B w0 ι a w hs=>?_
 have ha:=(hs.1.2 ι (Agree.refl _ _)).1
 obtain⟨k,hk⟩:=Option.isSome_iff_exists.1 hi
 have hb:=bounds_ok (P:=P) (w:=w) (lo:=none) (hi:=some (.tmp x)) (b:=true) (len:=len) (cap:=cap) ha (bd_tmp hh) (.inl ⟨rfl,rfl⟩) (Nat.zero_le h) hle
 simp only [Option.map_none,Option.map_some] at hb
 simp only [execOp,ho]
 rw [hx ι a ha]
 simp only [ren,radr_zero,Option.map_none,Option.map_some,Sem.run_bind]
 rcases slice_rest hu (b:=b) (q:=0) hb with e | e
 · rw [e]
   by_cases hc:cap=0
   · rw [if_pos hc]; simp
   · rw [if_neg hc]; simp
 · rw [e] at hk; cases hk
theorem satG_al {g:Gh} {y:Obj} {B:Nat->Prop} {w0 w:World} {ι:En} {a:Act} (hs:SatG n0 B w0 nt T hp nx G ι a w) (hgh:(∀k,B k->k<w.heap.size)->GhOk B (w.alloc y) w.heap.size g) :
  SatG n0 B w0 nt T hp nx (upd G w.heap.size g) ι a (w.alloc y)/\n0<=w.heap.size/\G w.heap.size=none:=by
 have c0:=(hs.1.2 ι (Agree.refl _ _)).2
 have hroom:∀k,(B k∨ownB hp ι k)->k<w.heap.size:=fun k hk=>by
  rcases hk with hk | ⟨id,o,hid,hown,rfl⟩
  · exact c0.room k hk
  · exact satG_own hs id o hid hown
 refine⟨satG_upd hs ((Kept.refl _ _).alloc (fun k hk=>hroom k hk) _) (fun k g' hne hk=>Below.heap_alloc _ _ _ (hs.2.1 k g' hk).lt) (hgh fun k hk=>hroom k (.inl hk)) (fun id o hid hown e=>?_),hs.2.2.2.1,?_⟩
 · have:=satG_own hs id o hid hown
   omega
 · cases hg:G w.heap.size with
   | none=>rfl
   | some g=>exact absurd (hs.2.1 _ _ hg).lt (by omega)
theorem StG.makeM {t:TypeId} {R:Tm->Tr AO->Pz->GH->Prop} (hg:(opAt ops i).guard=none) (hd:(opAt ops i).dst=some d) (hlt:d<nt) (ho:(opAt ops i).op=.makeMap t none)
  (hr:∀b,n0<=b->G b=none->R (T.put d (.rmp b)) hp nx (upd G b (.map []))):StG P n0 nt ops i T hp nx G R:=by
 intro B w0 ι a w hs
 refine .inl ⟨by simp [Region.wanted,hg],?_⟩
 rw [hd]
 have hrun:(execOp a.eval (opAt ops i)).run P w=.ok (.value (.map (some w.heap.size))) (w.alloc (.map #[] 0)):=by
  simp only [execOp,ho,Option.map_none,Sem.run_bind]
  rw [show (Instr.makeMap t none).run P w=.ok (.map (some w.heap.size)) (w.alloc (.map #[] 0)) from rfl]
  rfl
 obtain⟨h1,h2,h3⟩:=satG_al (g:=.map []) (y:=.map #[] 0) hs fun hB=>⟨fun h=>absurd (hB _ h) (by omega),#[],0,heap_alloc_at w _,(fun e h=>by cases h),fun ι=>rfl⟩
 exact .inl ⟨_,_,.inl hrun,_,_,_,_,ι,hr _ h2 h3,satG_put h1 hlt (nf_rmp _) (by simp [ren])⟩
end
end Go.Rex
namespace Go.Rex
open Go.RowKit
section
variable {P:Program} {n0 nt:Nat} {T T2:Tm} {hp H:Tr AO} {nx X:Pz} {G:GH} {ops:Array Oper} {light:List Nat} {i m d:Nat} {v u:AV} {call:CallT}
theorem StG.storeD {kd:BK} (hkd:kd≠.raw) {t el:TypeId} {x b o size n:Nat} {y:Operand} {C:List AV} {R:Tm->Tr AO->Pz->GH->Prop} (hg:(opAt ops i).guard=none) (hd:(opAt ops i).dst=none) (ho:(opAt ops i).op=.store t (.tmp x) y) (hx:T.at x=.rpt b o) (hy:EvA nt T y u)
  (hi:(P.info? t).isSome=true) (hn:szOf P t=n) (hl:u.cells.length=n) (hfl:flat u.cells=true) (hnf:nfL u.cells) (hb:G b=some (.cells kd el size C)) (hle:o+n<=C.length)
  (hr:R T hp nx (upd G b (.cells kd el size (putL C o u.cells)))):StG P n0 nt ops i T hp nx G R:=by
 intro B w0 ι a w hsat
 refine .inl ⟨by simp [Region.wanted,hg],?_⟩
 rw [hd]
 obtain⟨j,hj⟩:=Option.isSome_iff_exists.1 hi
 have hval:=(hsat.1.2 ι (Agree.refl _ _)).1
 obtain⟨hnC,A,fz,h1,h2,h3,h4,h5⟩:=hsat.2.1 b _ hb
 obtain⟨hnB,hfz⟩:=h5 hkd
 have hnb:∀id ob,hp.get id=some ob->own hp ob->ι.blk id≠b:=fun id ob hid hown e=>by
  have:=hsat.2.2.1 id ob hid hown
  rw [e,hb] at this; cases this
 have hrl:(renL ι u.cells).length=n:=by rw [renL_length,hl]
 have hcan:CanPut w b o (renL ι u.cells).length:=by rw [hrl]; exact canPut_of h1 (by omega) hfz
 have hrun:(execOp a.eval (opAt ops i)).run P w=.ok .skip (putCells w b o (renL ι u.cells)):=by
  simp only [execOp,ho]
  rw [satG_val hsat x hx,hy ι a hval]
  simp only [ren,Instr.storeAt,Instr.sureAddr,storeVar,Sem.run_bind,Sem.run_pure,Result.andThen_ok,run_size hj]
  rw [ren_cells,if_neg (by simp [hrl,hn])]
  rw [run_storeCells _ _ _ 0 w (renL_flat ι _ hfl) (by rw [Nat.add_zero]; exact hcan)]
  simp
 have hk:Kept (fun k=>B k∨ownB hp ι k) w (putCells w b o (renL ι u.cells)):=putCells_below _ _ _ _ (by
  rintro (hB | ⟨id,ob,hid,hown,e⟩)
  · exact hnB hB
  · exact hnb id ob hid hown e) (Kept.refl _ _)
 have hgh:GhOk B (putCells w b o (renL ι u.cells)) b (.cells kd el size (putL C o u.cells)):=by
  refine⟨?_,arrayPut A o (renL ι u.cells),fz,putCells_block _ _ _ _ _ _ _ h1,by rw [arrayPut_size]; exact h2,by rw [putL_length (by omega)]; exact h3,fun k hk' _ ι'=>?_,fun _=>⟨hnB,by rw [arrayPut_size]; exact hfz⟩⟩
  · exact nfL_append (nfL_append (nfL_take _ hnC) hnf) (nfL_drop _ hnC)
  · rw [putL_length (by omega)] at hk'
    rw [arrayPut_get _ _ _ _ (by rw [hrl]; omega),putL_get (by omega),hrl,hl]
    by_cases hlo:o<=k/\k<o+n
    · rw [if_pos hlo,if_pos hlo,renL_get]
      cases hc':u.cells[k-o]? with
      | none=>rfl
      | some q=>exact congrArg some (hnf q (List.mem_of_getElem? hc') ι ι')
    · rw [if_neg hlo,if_neg hlo]
      exact h4 k hk' (fun h=>absurd h hkd) ι'
 have hsn:=satG_upd (b:=b) (g:=.cells kd el size (putL C o u.cells)) hsat hk (fun k g' hne _=>putCells_ne _ _ _ _ _ hne) hgh hnb
 exact .inl ⟨undef,_,.inr ⟨hrun,rfl⟩,_,_,_,_,ι,hr,hsn⟩
end
end Go.Rex
