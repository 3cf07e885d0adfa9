/- Part Xab of the proof of ScopeEnds: no condition. -/
import Derived.Laws.Tables
import Derived.Laws.MakeOwn
import Derived.LoopNIn
import Derived.OrdersIn
import Derived.RangeFuncRecord
import Derived.Scope
import Derived.Maps.Range
import Derived.Test.YtmabojcaklojhaaGreatXaa
set_option linter.unusedSimpArgs false
set_option linter.unusedVariables false
namespace Go.Rex
open Go.RowKit
theorem map_mk {α β:Type} (f:α->β) (xs:Array α):xs.map f=(xs.toList.map f).toArray:=by rw [<-Array.toList_map]
theorem known_und {P:Program} {t:TypeId} (h:knownT P t=true):∃d,P.underlying t=some d:=Option.isSome_iff_exists.1 h
theorem info_of_sz {P:Program} {t:TypeId} (h:szOf P t≠0):∃i,P.info? t=some i:=by
 unfold szOf at h
 cases hi:P.info? t with
 | none=>rw [hi] at h; exact absurd rfl h
 | some i=>exact⟨i,rfl⟩
section
variable {P:Program} {o:Oper} {tm:Tm} {hp:Tr AO} {nx:Pz} {k:AV->Tr AO->Pz->Rs} {call:CallT}
theorem val_to {v:AV} (hv:OVal P o tm hp v) (hk:k v hp nx=.ok):ValTo P o tm hp nx k:=⟨v,hk,hv⟩
theorem move_ok {x:Operand} (ho:o.op=.move x∨o.op=.assign x) (h:(evB x).run tm (fun v=>k v hp nx)=.ok):ValTo P o tm hp nx k:=by
 obtain⟨v,hk,hv⟩:=evB_ok h
 refine val_to (v:=v) (fun B w0 ι nt a w ha hc=>?_) hk
 rcases ho with ho | ho<;>(simp only [execOp,ho]; rw [hv ι nt a ha]; rfl)
theorem pick_ok {c x y:Operand} (ho:o.op=.pick c x y) (h:((evB c).run tm fun c=>asBool c fun c=>Bool.rec (motive:=fun _=>Rs) ((evB y).run tm fun v=>k v hp nx) ((evB x).run tm fun v=>k v hp nx) c)=.ok):ValTo P o tm hp nx k:=by
 obtain⟨cv,h,hc⟩:=evB_ok h
 obtain⟨b,rfl,g⟩:=asBool_ok h
 cases b with
 | true =>
   obtain⟨v,hk,hv⟩:=evB_ok (x:=x) g
   refine val_to (v:=v) (fun B w0 ι nt a w ha hcc=>?_) hk
   simp only [execOp,ho]
   rw [hc ι nt a ha]
   simp [ren,Go.asBool,hv ι nt a ha]
 | false =>
   obtain⟨v,hk,hv⟩:=evB_ok (x:=y) g
   refine val_to (v:=v) (fun B w0 ι nt a w ha hcc=>?_) hk
   simp only [execOp,ho]
   rw [hc ι nt a ha]
   simp [ren,Go.asBool,hv ι nt a ha]
theorem fieldOff_ok {t:TypeId} {f off:Nat} {ft:TypeId} (h:fieldOff P t f=some (off,ft)):∃fs fd,P.underlying t=some (.struct fs)/\fs[f]?=some fd/\fd.offset=off/\fd.type=ft:=by
 unfold fieldOff at h
 split at h
 · rename_i fs hu
   cases hf:fs[f]? with
   | none=>rw [hf] at h; cases h
   | some fd=>rw [hf] at h; cases h; exact⟨fs,fd,hu,hf,rfl,rfl⟩
 · cases h
theorem fieldAddr_ok {t:TypeId} {x:Operand} {f off:Nat} {ft:TypeId} (ho:o.op=.fieldAddr t x f) (hf:fieldOff P t f=some (off,ft)) (hz:Nat.beq (szOf P ft) 0=false)
  (h:((evB x).run tm fun v=>asPtr v fun id oo=>natF (oo+off) fun oo=>k (.ptr id oo) hp nx)=.ok):ValTo P o tm hp nx k:=by
 obtain⟨v,h,hv⟩:=evB_ok h
 obtain⟨id,oo,rfl,g⟩:=asPtr_ok h
 rw [natF_eq] at g
 obtain⟨fs,fd,h1,h2,h3,h4⟩:=fieldOff_ok hf
 refine val_to (v:=.ptr id (oo+off)) (fun B w0 ι nt a w ha hcc=>?_) g
 have hz':=beq_no hz
 obtain⟨i,hi⟩:=info_of_sz hz'
 simp only [execOp,ho]
 rw [hv ι nt a ha]
 simp only [ren,Instr.fieldAt,Sem.run_bind,run_und h1,Result.andThen_ok,h2,Instr.sureAddr,Sem.run_pure,fieldPlace]
 rw [h4,run_size hi]
 simp only [Result.andThen_ok]
 rw [if_neg hz']
 simp only [Sem.run_pure,Result.andThen_ok,addr_add,h3,Nat.add_assoc]
theorem field_ok {t:TypeId} {x:Operand} {f off:Nat} {ft:TypeId} (ho:o.op=.field t x f) (hf:fieldOff P t f=some (off,ft)) {v:AV} {cs:List AV} (hx:∀ι nt a,TmpOk ι nt tm a->a.eval x=ren ι (.agg cs))
  (hv:∀ι w,(part ft (renL ι cs).toArray off).run P w=.ok (ren ι v) w) (hk:k v hp nx=.ok):ValTo P o tm hp nx k:=by
 obtain⟨fs,fd,h1,h2,h3,h4⟩:=fieldOff_ok hf
 refine val_to (v:=v) (fun B w0 ι nt a w ha hcc=>?_) hk
 simp only [execOp,ho]
 rw [hx ι nt a ha]
 simp only [ren,Instr.field,Sem.run_bind,run_und h1,Result.andThen_ok,h2,Go.asAgg,Sem.run_pure]
 rw [h4,h3,hv]
 rfl
theorem part_agg {t:TypeId} {cs:List AV} {off:Nat} (h:aggT P t=true) (ι:En) (w:World):(part t (renL ι cs).toArray off).run P w=.ok (ren ι (.agg ((cs.drop off).take (szOf P t)))) w:=by
 rw [run_part_agg h]
 simp only [ren,renL_take,renL_drop]
theorem part_one {t:TypeId} {cs:List AV} {off:Nat} {v:AV} (hk:knownT P t=true) (h:aggT P t=false) (hv:cs[off]?=some v) (ι:En) (w:World):(part t (renL ι cs).toArray off).run P w=.ok (ren ι v) w:=by
 obtain⟨d,hd⟩:=known_und hk
 exact run_part_one hd h (by rw [renL_get,hv]; rfl)
theorem extract_ok {x:Operand} {i:Nat} (ho:o.op=.extract x i) (h:((evB x).run tm fun v=>match v with
  | .tup vs=>nthK i vs (fun v=>k v hp nx)
  | _=>.bad 163)=.ok):ValTo P o tm hp nx k:=by
 obtain⟨v,h,hv⟩:=evB_ok h
 cases v with
 | tup vs =>
   obtain⟨u,hu,h⟩:=nthK_ok _ h
   refine val_to (v:=u) (fun B w0 ι nt a w ha hcc=>?_) h
   simp only [execOp,ho]
   rw [hv ι nt a ha]
   have:(renL ι vs).toArray[i]?=some (ren ι u):=by rw [List.getElem?_toArray,renL_get,hu]; rfl
   simp [ren,Instr.extract,this]
 | _=>cases h
theorem makeFunc_ok {fn:Fn} (hfn:okFn fn=true) {first captured:Array Operand} (ho:o.op=.makeFunc fn first captured) (h:(evsB first.toList tm fun x=>evsB captured.toList tm fun y=>k (.func fn x y) hp nx)=.ok):ValTo P o tm hp nx k:=by
 obtain⟨x,h,hx⟩:=evsB_ok _ h
 obtain⟨y,h,hy⟩:=evsB_ok _ h
 refine val_to (v:=.func fn x y) (fun B w0 ι nt a w ha hcc=>?_) h
 have e1:first.map a.eval=(renL ι x).toArray:=by rw [<-hx ι nt a ha,map_mk]
 have e2:captured.map a.eval=(renL ι y).toArray:=by rw [<-hy ι nt a ha,map_mk]
 simp only [execOp,ho,e1,e2]
 simp [Instr.makeFunc,ren,renFn_ok hfn]
theorem makeIface_ok {t:TypeId} {x:Operand} {d:TypeDesc} (ho:o.op=.makeInterface t x) (hd:P.underlying t=some d) (hni:∀ms,d≠.interface ms) (h:((evB x).run tm fun v=>k (.iface t v) hp nx)=.ok):ValTo P o tm hp nx k:=by
 obtain⟨v,h,hv⟩:=evB_ok h
 refine val_to (v:=.iface t v) (fun B w0 ι nt a w ha hcc=>?_) h
 simp only [execOp,ho]
 rw [hv ι nt a ha]
 cases d<;>first | exact absurd rfl (hni _) | simp [Instr.makeInterface,run_und hd,ren]
theorem run_guard {op:BinOp} {t:TypeId} {x y:Operand} {u v:AV} (hg:eqOkT P op t=true) (hn:¬(u=.nilIface/\v=.nilIface)) (ι:En) (w:World):(eqGuard op t x y (ren ι u) (ren ι v)).run P w=.ok () w:=by
 unfold eqOkT at hg
 rw [Bool.or_eq_true] at hg
 unfold eqGuard
 cases op<;>simp [isEq] at hg ⊢
 all_goals
  cases u<;>cases v<;>simp [ren] at hn ⊢
  all_goals simp [hg]
theorem binOp_ok {op:BinOp} {t yt:TypeId} {x y:Operand} (ho:o.op=.binOp op t x y yt) (hg:eqOkT P op t=true) (h:((evB x).run tm fun a=>(evB y).run tm fun b=>(binS P op t).run a b fun v=>k v hp nx)=.ok):ValTo P o tm hp nx k:=by
 obtain⟨u,h,hu⟩:=evB_ok h
 obtain⟨v,h,hv⟩:=evB_ok h
 obtain⟨⟨r,h,hr⟩,hn⟩:=binK_ok (binS_ok h)
 refine val_to (v:=r) (fun B w0 ι nt a w ha hcc=>?_) h
 simp only [execOp,ho]
 rw [hu ι nt a ha,hv ι nt a ha]
 simp only [Sem.run_bind,run_guard hg hn ι w,Result.andThen_ok,hr ι w,Sem.run_pure]
theorem conc_ok {v:AV} {c:Value} (h:conc v=some c) (ι:En):ren ι v=c:=by
 cases v<;>simp [conc] at h<;>(subst h; simp [ren])
theorem unOp_ok {op:UnOp} {t:TypeId} {x:Operand} (ho:o.op=.unOp op t x) (h:((evB x).run tm fun v=>unK op v fun v=>k v hp nx)=.ok):ValTo P o tm hp nx k:=by
 obtain⟨v,h,hv⟩:=evB_ok h
 have slow:(match conc v with
   | some c=>scal (Op.unary op c) fun v=>k v hp nx
   | none=>.bad 138)=.ok->ValTo P o tm hp nx k:=by
  intro h
  cases hc:conc v with
  | none=>rw [hc] at h; cases h
  | some c =>
    rw [hc] at h
    obtain⟨r,c',hs,hk,hr⟩:=scal_ok h
    have key:OVal P o tm hp r:=fun B w0 ι nt a w ha hcc=>by
     simp only [execOp,ho]
     rw [hv ι nt a ha,conc_ok hc ι,hs,hr ι]
     rfl
    exact val_to key hk
 cases op with
 | not =>
   cases v with
   | bool b =>
     have h:(boolF (!b) fun b=>k (.bool b) hp nx)=.ok:=h
     rw [boolF_eq] at h
     have key:OVal P o tm hp (.bool (!b)):=fun B w0 ι nt a w ha hcc=>by
      simp only [execOp,ho]
      rw [hv ι nt a ha]
      simp [ren,Op.unary]
     exact val_to key h
   | _=>exact slow h
 | neg =>
   cases v with
   | int kd n =>
     have h:=wrapF_ok h
     have key:OVal P o tm hp (.int kd (kd.wrap (Int.sub 0 n))):=fun B w0 ι nt a w ha hcc=>by
      simp only [execOp,ho]
      rw [hv ι nt a ha]
      simp only [ren,Op.unary,Op.intArith]
      rfl
     exact val_to key h
   | _=>exact slow h
 | xor=>cases v<;>exact slow h
 | plus=>cases v<;>exact slow h
end
end Go.Rex
namespace Go.Rex
open Go.RowKit
section
variable {P:Program} {o:Oper} {tm:Tm} {hp:Tr AO} {nx:Pz} {k:AV->Tr AO->Pz->Rs} {call:CallT}
theorem run_cells {ι:En} {w:World} {id:Pz} {off:Nat} {l:List AV} {n:Nat} (h:CellsAre ι w id off l) (hn:l.length=n):(loadCells ⟨ι.blk id,ι.sh id+off,none⟩ n).run P w=.ok (renL ι l).toArray w:=by
 refine run_loadCells (by rw [renL_length,hn]) (fun j hj=>?_)
 rw [renL_length] at hj
 rw [renL_get,<-h j hj,Nat.add_assoc]
theorem load_agg_ok {t:TypeId} {x:Operand} (ho:o.op=.load t x) (ht:aggT P t=true) (h:((evB x).run tm fun v=>asPtr v fun id off=>readCells hp id off (szOf P t) fun cs=>k (.agg cs) hp nx)=.ok):ValTo P o tm hp nx k:=by
 obtain⟨v,h,hv⟩:=evB_ok h
 obtain⟨id,off,rfl,g⟩:=asPtr_ok h
 obtain⟨l,g,hl⟩:=readCells_ok g
 obtain⟨d,hd⟩:=aggT_und ht
 have key:OVal P o tm hp (.agg l):=fun B w0 ι nt a w ha hc=>by
  obtain⟨h1,h2⟩:=hl B w0 ι w hc
  simp only [execOp,ho]
  rw [hv ι nt a ha]
  simp only [ren,Instr.loadAt,Instr.sureAddr,loadVar,Sem.run_bind,Sem.run_pure,Result.andThen_ok,run_agg hd,ht,if_true,run_size_und hd]
  rw [run_cells h2 h1]
  simp
 exact val_to key g
theorem load_one_ok {t:TypeId} {x:Operand} (ho:o.op=.load t x) (hk:knownT P t=true) (ht:aggT P t=false) (h:((evB x).run tm fun v=>asPtr v fun id off=>readCell hp id off fun v=>k v hp nx)=.ok):ValTo P o tm hp nx k:=by
 obtain⟨v,h,hv⟩:=evB_ok h
 obtain⟨id,off,rfl,g⟩:=asPtr_ok h
 obtain⟨u,g,hu⟩:=readCell_ok g
 obtain⟨d,hd⟩:=known_und hk
 have key:OVal P o tm hp u:=fun B w0 ι nt a w ha hc=>by
  simp only [execOp,ho]
  rw [hv ι nt a ha]
  simp only [ren,Instr.loadAt,Instr.sureAddr,loadVar,Sem.run_bind,Sem.run_pure,Result.andThen_ok,run_agg hd,ht,Bool.false_eq_true,if_false]
  rw [run_load_cell (hu B w0 ι w hc)]
  simp
 exact val_to key g
theorem store_ok {t:TypeId} {x y:Operand} (ho:o.op=.store t x y) (h:((evB x).run tm fun p=>(evB y).run tm fun v=>asPtr p fun id off =>
      ifK (Nat.beq v.cells.length (szOf P t)) (writeCells hp id off v.cells fun hp=>k undefA hp nx) (.bad 135))=.ok) (hi:∃i,P.info? t=some i):OpTo P o tm hp nx k:=by
 obtain⟨p,h,hp'⟩:=evB_ok h
 obtain⟨v,h,hv⟩:=evB_ok h
 obtain⟨id,off,rfl,g⟩:=asPtr_ok h
 obtain⟨hl,g⟩:=ifK_ok g
 obtain⟨hp1,g,hf,hput⟩:=writeCells_ok g
 have hl:=beq_ok hl
 obtain⟨i,hi⟩:=hi
 have key:OWr P o tm hp nx undefA hp1:=by
  refine⟨hput.1 nx,fun B w0 ι nt a w hw ha hc=>?_⟩
  obtain⟨hc',hcan⟩:=hput.2 B w0 ι w nx hw hc
  refine⟨_,undef,.inr ⟨?_,rfl⟩,(ren_undef ι).symm,hc'⟩
  simp only [execOp,ho]
  rw [hp' ι nt a ha,hv ι nt a ha]
  simp only [ren,Instr.storeAt,Instr.sureAddr,storeVar,Sem.run_bind,Sem.run_pure,Result.andThen_ok,run_size hi]
  rw [ren_cells,if_neg (by simp [renL_length,hl])]
  rw [run_storeCells _ _ _ 0 w (renL_flat ι _ hf) (by rw [Nat.add_zero,renL_length]; exact hcan)]
  simp
 exact (key.eff).to g
theorem zeroOf_ok {t:TypeId} {z:AV} (h:zeroOf P t=some z):∃i zv,P.info? t=some i/\i.zero=some zv/\absV 8 zv=some z/\∀ι w,(zeroValue t).run P w=.ok (ren ι z) w:=by
 unfold zeroOf at h
 cases hi:P.info? t with
 | none=>rw [hi] at h; cases h
 | some i =>
   rw [hi] at h
   cases hz:i.zero with
   | none=>simp only [hz] at h; cases h
   | some zv =>
     simp only [hz] at h
     refine⟨i,zv,rfl,hz,h,fun ι w=>?_⟩
     simp only [zeroValue,Sem.run_bind,run_typ hi,Result.andThen_ok,hz]
     rw [absV_ren 8 zv z h ι]; rfl
theorem alloc_ok {e:TypeId} {z:AV} (ho:o.op=.alloc e) (hz:zeroOf P e=some z) (h:(natF z.cells.length fun es=>newArr hp nx es 1 e (one z.cells) fun id hp nx=>k (.ptr id 0) hp nx)=.ok):NewTo P o tm hp nx k:=by
 rw [natF_eq,newArr_eq] at h
 obtain⟨i,zv,h1,h2,h3,h4⟩:=zeroOf_ok hz
 refine⟨_,.arr z.cells.length 1 e (one z.cells),h,rfl,(fun _ _ h=>by cases h),(fun ι nt a ha hs=>⟨_,fun w hb=>?_,fun hp' w' hy=>objOk_one' hy hs⟩)⟩
 simp only [execOp,ho,Instr.alloc,Sem.run_bind,h4 ι,Result.andThen_ok,newVar,newRow,run_newObj,Sem.run_pure,ren,hb,hs,ren_cells]
 rfl
theorem box_ok {e:TypeId} {x:Operand} (ho:o.op=.box e x) (h:((evB x).run tm fun v=>natF v.cells.length fun es=>newArr hp nx es 1 e (one v.cells) fun id hp nx=>k (.ptr id 0) hp nx)=.ok):NewTo P o tm hp nx k:=by
 obtain⟨v,h,hv⟩:=evB_ok h
 rw [natF_eq,newArr_eq] at h
 refine⟨_,.arr v.cells.length 1 e (one v.cells),h,rfl,(fun _ _ h=>by cases h),(fun ι nt a ha hs=>⟨_,fun w hb=>?_,fun hp' w' hy=>objOk_one' hy hs⟩)⟩
 simp only [execOp,ho]
 rw [hv ι nt a ha]
 simp only [Instr.box,Sem.run_bind,Result.andThen_ok,newVar,newRow,run_newObj,Sem.run_pure,ren,hb,hs,ren_cells]
 rfl
theorem makeMap_ok {t:TypeId} {r:Option Operand} (ho:o.op=.makeMap t r) (hr:∀ι nt a w,TmpOk ι nt tm a->(Instr.makeMap t (r.map a.eval)).run P w=.ok (.map (some w.heap.size)) (w.alloc (.map #[] 0))) (h:newObj hp nx (.map [] 0) (fun id hp nx=>k (.map id) hp nx)=.ok):NewTo P o tm hp nx k:=by
 rw [newObj_eq] at h
 refine⟨_,.map [] 0,h,rfl,(fun _ _ h=>by cases h),(fun ι nt a ha hs=>⟨.map #[] 0,fun w hb=>?_,fun hp' w' hy=>⟨#[],hy,rfl⟩⟩)⟩
 simp only [execOp,ho,Sem.run_bind,hr ι nt a w ha,Result.andThen_ok,Sem.run_pure,ren,hb]
end
end Go.Rex
namespace Go.Rex
open Go.RowKit
section
variable {P:Program} {o:Oper} {tm:Tm} {hp:Tr AO} {nx:Pz} {k:AV->Tr AO->Pz->Rs} {call:CallT}
theorem ren_int (ι:En) (kd:IntKind) (n:Nat):ren ι (.int kd (.ofNat n))=.int kd (n:Int):=by simp [ren]
theorem idx_slice {P:Program} {w:World} {t e:TypeId} {kd:IntKind} {i len cap:Nat} {b o:Nat} (hu:P.underlying t=some (.slice e)) (hi:∃j,P.info? e=some j) (h:i<len) :
  (Instr.indexAt t (.slice (some ⟨b,o,none⟩) len cap) (.int kd (i:Int))).run P w=.ok (.pointer (some ⟨b,o+i*szOf P e,none⟩)) w:=by
 obtain⟨j,hj⟩:=hi
 simp only [Instr.indexAt,asIntOf,Sem.run_bind,Sem.run_pure,Result.andThen_ok,run_und hu]
 cases hl:decide (len<=1)
 all_goals
  simp only [hl,Bool.false_and,Bool.true_and,Sem.run_bind,Sem.run_pure,Result.andThen_ok,run_und hu,Sem.run_ite,Bool.false_eq_true,if_false]
  rw [if_pos (by omega)]
  simp only [Sem.run_bind,run_size hj,Result.andThen_ok,Sem.run_pure,Int.toNat_natCast,addr_add]
theorem idx_array {P:Program} {w:World} {t e:TypeId} {kd:IntKind} {i len:Nat} {b o:Nat} (hu:P.underlying t=some (.array len e)) (hi:∃j,P.info? e=some j) (h:i<len) :
  (Instr.indexAt t (.pointer (some ⟨b,o,none⟩)) (.int kd (i:Int))).run P w=.ok (.pointer (some ⟨b,o+i*szOf P e,none⟩)) w:=by
 obtain⟨j,hj⟩:=hi
 simp only [Instr.indexAt,asIntOf,Sem.run_bind,Sem.run_pure,Result.andThen_ok,run_und hu,Instr.sureAddr]
 cases hl:decide (len<=1)
 all_goals
  simp only [hl,Bool.false_and,Bool.true_and,Sem.run_bind,Sem.run_pure,Result.andThen_ok,run_und hu,Sem.run_ite,Bool.false_eq_true,if_false]
  rw [if_pos (by omega)]
  simp only [Sem.run_bind,run_size hj,Result.andThen_ok,Sem.run_pure,Int.toNat_natCast,addr_add]
theorem indexSlice_ok {t e:TypeId} {x i:Operand} (ho:o.op=.indexAddr t x i) (hu:P.underlying t=some (.slice e)) (hi:∃j,P.info? e=some j) (h:((evB x).run tm fun v=>(evB i).run tm fun i=>asNat i fun i=>selSl v (.bad 151) (.bad 151)
        (fun id off len _=>ifK (Nat.blt i len) (natF (off+i*szOf P e) fun o=>k (.ptr id o) hp nx) (.bad 149))
        (fun id off len _=>ifK (Nat.blt i len) (natF (off+i*szOf P e) fun o=>k (.ptr id o) hp nx) (.bad 150)))=.ok):ValTo P o tm hp nx k:=by
 obtain⟨v,h,hv⟩:=evB_ok h
 obtain⟨iv,h,hiv⟩:=evB_ok h
 obtain⟨kd,n,rfl,g⟩:=asNat_ok h
 cases v with
 | slice id off len cap =>
   obtain⟨hlt,g⟩:=ifK_ok g
   rw [natF_eq] at g
   have key:OVal P o tm hp (.ptr id (off+n*szOf P e)):=fun B w0 ι nt a w ha hc=>by
    simp only [execOp,ho]
    rw [hv ι nt a ha,hiv ι nt a ha,ren_int]
    simp only [ren,Sem.run_bind]
    rw [idx_slice hu hi (blt_ok hlt)]
    simp [Nat.add_assoc]
   exact val_to key g
 | oslice id off len skip =>
   obtain⟨hlt,g⟩:=ifK_ok g
   rw [natF_eq] at g
   have key:OVal P o tm hp (.ptr id (off+n*szOf P e)):=fun B w0 ι nt a w ha hc=>by
    simp only [execOp,ho]
    rw [hv ι nt a ha,hiv ι nt a ha,ren_int]
    simp only [ren,Sem.run_bind]
    rw [idx_slice hu hi (blt_ok hlt)]
    simp [Nat.add_assoc]
   exact val_to key g
 | _=>cases g
theorem indexArr_ok {t e:TypeId} {m:Nat} {x i:Operand} (ho:o.op=.indexAddr t x i) (hu:P.underlying t=some (.array m e)) (hi:∃j,P.info? e=some j) (h:((evB x).run tm fun v=>(evB i).run tm fun i=>asNat i fun i=>asPtr v fun id off =>
        ifK (Nat.blt i m) (natF (off+i*szOf P e) fun o=>k (.ptr id o) hp nx) (.bad 152))=.ok):ValTo P o tm hp nx k:=by
 obtain⟨v,h,hv⟩:=evB_ok h
 obtain⟨iv,h,hiv⟩:=evB_ok h
 obtain⟨kd,n,rfl,g⟩:=asNat_ok h
 obtain⟨id,off,rfl,g⟩:=asPtr_ok g
 obtain⟨hlt,g⟩:=ifK_ok g
 rw [natF_eq] at g
 have key:OVal P o tm hp (.ptr id (off+n*szOf P e)):=fun B w0 ι nt a w ha hc=>by
  simp only [execOp,ho]
  rw [hv ι nt a ha,hiv ι nt a ha,ren_int]
  simp only [ren,Sem.run_bind]
  rw [idx_array hu hi (blt_ok hlt)]
  simp [Nat.add_assoc]
 exact val_to key g
theorem indexStr_ok {t:TypeId} {x i:Operand} (ho:o.op=.index t x i) (hu:P.underlying t=some .string) (h:((evB x).run tm fun v=>(evB i).run tm fun i=>asNat i fun i=>match v with
      | .str l n=>ifK (Nat.blt i l) (natF (Nat.mod (Nat.shiftRight n (Nat.mul 8 (Nat.sub l (Nat.succ i)))) 256) fun b=>k (.int .u8 (.ofNat b)) hp nx) (.bad 154)
      | _=>.bad 155)=.ok):ValTo P o tm hp nx k:=by
 obtain⟨v,h,hv⟩:=evB_ok h
 obtain⟨iv,h,hiv⟩:=evB_ok h
 obtain⟨kd,j,rfl,g⟩:=asNat_ok h
 cases v with
 | str l n =>
   obtain⟨hlt,g⟩:=ifK_ok g
   have hlt:=blt_ok hlt
   rw [natF_eq] at g
   have hsh:Nat.shiftRight n (Nat.mul 8 (Nat.sub l (Nat.succ j)))=Nat.div n (pow8 (Nat.sub l (j+1))):=by
    rw [pow8_eq,show Nat.shiftRight n (Nat.mul 8 (Nat.sub l (Nat.succ j)))=n >>> (8*(l-(j+1))) from rfl,Nat.shiftRight_eq_div_pow,Nat.pow_mul]; rfl
   rw [hsh] at g
   have key:OVal P o tm hp (.int .u8 (.ofNat (Nat.mod (Nat.div n (pow8 (Nat.sub l (j+1)))) 256))):=fun B w0 ι nt a w ha hc=>by
    simp only [execOp,ho]
    rw [hv ι nt a ha,hiv ι nt a ha,ren_int,ren_int]
    simp only [ren,Instr.index,asIntOf,Sem.run_bind,Sem.run_pure,Result.andThen_ok,run_und hu]
    have hget:(ByteArray.mk (bytesOf l n).toArray)[j]?=some (UInt8.ofNat (n/256 ^ (l-(j+1))%256)):=by
     have:=bytesOf_get l n j hlt
     have hsz:j<(ByteArray.mk (bytesOf l n).toArray).size:=by show j<(bytesOf l n).toArray.size; simp [bytesOf_length,hlt]
     rw [getElem?_pos _ j hsz]
     have hsz':j<(bytesOf l n).length:=by rw [bytesOf_length]; exact hlt
     rw [List.getElem?_eq_getElem hsz'] at this
     rw [<-Option.some.inj this]
     rfl
    rw [if_pos (by omega)]
    simp only [Int.toNat_natCast,hget,Sem.run_pure,Result.andThen_ok]
    rw [pow8_eq]
    congr 4
    simp only [UInt8.toNat_ofNat']
    show n/256 ^ (l-(j+1))%256%2 ^ 8=n/256 ^ (l-(j+1))%256
    omega
   exact val_to key g
 | _=>cases g
theorem lenS_ok {t:TypeId} {v:AV} {kk:Nat->Rs} (h:(lenS P t).run hp v kk=.ok):lenK P t hp v kk=.ok:=by
 unfold lenS at h
 unfold lenK
 split at h
 · rename_i hu; rw [hu]; cases v<;>first | exact h | cases h
 · rename_i hu; rw [hu]; cases v<;>first | exact h | cases h
 · exact h
theorem len_ok {ats:Array TypeId} {t:TypeId} {ats':List TypeId} {x:Operand} {c:Call} (ho:o.op=.call c) (hc:c.callee=.builtin .len) (hats:c.argTypes.toList=t::ats') (hx:c.args.toList=[x])
  (h:((evB x).run tm fun v=>(lenS P t).run hp v fun n=>k (.int .i64 (.ofNat n)) hp nx)=.ok):ValTo P o tm hp nx k:=by
 obtain⟨v,h,hv⟩:=evB_ok h
 replace h:=lenS_ok h
 have hl:∃n,k (.int .i64 (.ofNat n)) hp nx=.ok/\∀B w0 ι w,Core B w0 ι hp w->(Builtin.len_ c.argTypes o.type #[ren ι v]).run P w=.ok (.int .i64 (n:Int)) w:=by
  have ht:c.argTypes[0]?=some t:=by rw [<-Array.getElem?_toList,hats]; rfl
  have go:∀{u:TypeDesc},P.underlying t=some u->∀(ι:En) (w:World),(Builtin.len_ c.argTypes o.type #[ren ι v]).run P w=(match u,ren ι v with
    | .string,.string s=>(pure (goInt s.size):Sem Value)
    | .array n _,_=>pure (goInt n)
    | .pointer arr,_=>do
      let .array n _ <-underlying arr | stuck "len: pointer to array expected"
      pure (goInt n)
    | .slice _,.slice _ n _=>pure (goInt n)
    | .map _ _,.map none | .chan _ _,.chan none=>pure (goInt 0)
    | .map _ _,.map (some r)=>do
      let .map entries _ <-getObj r | stuck "len: map expected"
      pure (goInt entries.size)
    | .chan _ _,.chan (some r)=>do
      let .chan _ buf _ _ _ timer <-getObj r | stuck "len: channel expected"
      pure (goInt (if timer then 0 else buf.size))
    | _,_=>stuck "len: string, array, pointer to array, slice, map or channel expected").run P w:=by
   intro u hu ι w
   simp only [Builtin.len_,ht]
   simp only [List.getElem?_toArray,List.getElem?_cons_zero,Sem.run_bind,run_und hu,Result.andThen_ok]
   rfl
  unfold lenK at h
  split at h
  case h_1 l n hu=>exact⟨l,h,fun B w0 ι w hc=>by rw [go hu]; simp only [ren,Sem.run_pure,goInt]; rw [show (ByteArray.mk (bytesOf l n).toArray).size=l from by show (bytesOf l n).toArray.size=l; simp [bytesOf_length]]⟩
  case h_2 n e hu=>exact⟨n,h,fun B w0 ι w hc=>by rw [go hu]; simp only [Sem.run_pure,goInt]⟩
  case h_3 hu=>exact⟨_,h,fun B w0 ι w hc=>by rw [go hu]; simp only [ren,Sem.run_pure,goInt]⟩
  case h_4 hu=>exact⟨_,h,fun B w0 ι w hc=>by rw [go hu]; simp only [ren,Sem.run_pure,goInt]⟩
  case h_5 hu=>exact⟨0,h,fun B w0 ι w hc=>by rw [go hu]; simp only [ren,Sem.run_pure,goInt]<;>rfl⟩
  case h_6 hu=>exact⟨0,h,fun B w0 ι w hc=>by rw [go hu]; simp only [ren,Sem.run_pure,goInt]<;>rfl⟩
  case h_7 id hu =>
   obtain⟨ob,hob,h⟩:=getK_ok h
   cases ob with
   | map es cl =>
     refine⟨es.length,h,fun B w0 ι w hc=>?_⟩
     obtain⟨E,h1,h2⟩:=hc.obj _ _ hob
     rw [go hu]
     simp only [ren,Sem.run_bind,getObj,Sem.run,h1,Result.andThen_ok,goInt,Sem.run_pure]
     have:E.size=es.length:=by rw [<-Array.length_toList,h2]; simp
     rw [this]
   | _=>cases h
  case h_8=>cases h
 obtain⟨n,hk,hr⟩:=hl
 have key:OVal P o tm hp (.int .i64 (.ofNat n)):=fun B w0 ι nt a w ha hcc=>by
  have hargs:c.args.map a.eval=#[ren ι v]:=by rw [map_mk,hx]; simp [hv ι nt a ha]
  simp only [execOp,ho,resolve,hc,hargs,Sem.run_bind,Sem.run_pure,Result.andThen_ok,invoke,builtin]
  rw [hr B w0 ι w hcc]
  simp [ren]
 exact val_to key hk
end
end Go.Rex
namespace Go.Rex
open Go.RowKit
theorem foldl_put (off:Nat):∀(l:List Value) (n:Nat) (C:Array Value),(l.zipIdx n).foldl (fun cs x=>cs.setIfInBounds (off+x.2) x.1) C=arrayPut C (off+n) l
 | [],n,C=>rfl
 | v::l,n,C=>by
   simp only [List.zipIdx_cons,List.foldl_cons,arrayPut]
   rw [foldl_put off l (n+1)]
   rfl
theorem arrayPut_ren (ι:En) (cs vs:List AV) (off:Nat) (h:off+vs.length<=cs.length):arrayPut (renL ι cs).toArray off (renL ι vs)=(renL ι (splice off vs cs)).toArray:=by
 apply Array.ext_getElem?
 intro i
 rw [arrayPut_get _ _ _ _ (by simp [renL_length]; exact h)]
 rw [List.getElem?_toArray,List.getElem?_toArray,renL_get,renL_get,renL_get,splice_get _ _ _ h,renL_length]
 split<;>rfl
section
variable {P:Program} {o:Oper} {tm:Tm} {hp:Tr AO} {nx:Pz} {k:AV->Tr AO->Pz->Rs} {call:CallT}
theorem fillK_ok (place:Nat->Option (Nat × Nat)):∀(ps:List (Nat × Operand)) (cs:List AV) (k:List AV->Rs),fillK place ps tm cs k=.ok ->
  ∃cs',k cs'=.ok/\cs'.length=cs.length/\∀ι nt a,TmpOk ι nt tm a->Instr.fill place (renL ι cs).toArray (ps.map fun p=>(p.1,a.eval p.2))=some (renL ι cs').toArray
 | [],cs,k,h=>⟨cs,h,rfl,fun ι nt a ha=>rfl⟩
 | p::ps,cs,k,h=>by
   have h:(match place p.1 with
    | none=>Rs.bad 40
    | some (off,size)=>(evB p.2).run tm fun v=>ifK (Nat.beq v.cells.length size) (spliceK off v.cells cs fun cs=>fillK place ps tm cs k) (.bad 41))=.ok:=h
   cases hp:place p.1 with
   | none=>rw [hp] at h; cases h
   | some q =>
     obtain⟨off,size⟩:=q
     rw [hp] at h
     obtain⟨v,h,hv⟩:=evB_ok h
     obtain⟨hsz,h⟩:=ifK_ok h
     have hsz:=beq_ok hsz
     obtain⟨hr,h⟩:=spliceK_ok _ h
     obtain⟨cs',hk,hlen,hf⟩:=fillK_ok place ps _ _ h
     refine⟨cs',hk,by rw [hlen,splice_length _ _ _ hr],fun ι nt a ha=>?_⟩
     simp only [List.map_cons,Instr.fill,hp]
     rw [hv ι nt a ha,ren_cells]
     have e1:(renL ι v.cells).toArray.size=size:=by simp [renL_length,hsz]
     have e2:(renL ι cs).toArray.size=cs.length:=by simp [renL_length]
     rw [if_neg (by rw [e1,e2]; simp; omega)]
     rw [<-Array.foldl_toList,Array.toList_zipIdx,foldl_put off,Nat.add_zero,arrayPut_ren ι _ _ _ hr]
     exact hf ι nt a ha
theorem evals_parts (ps:Array (Nat × Operand)) (a:Act):(ps.map fun x=>(x.1,a.eval x.2)).toList=ps.toList.map fun p=>(p.1,a.eval p.2):=by simp
theorem buildS_ok {t:TypeId} {z:AV} {fs:Array Field} {ps:Array (Nat × Operand)} {places:List (Nat × Nat)} (ho:o.op=.build t ps) (hz:zeroOf P t=some z) (hu:P.underlying t=some (.struct fs))
  (hp':fs.toList.mapM (fun f=>(P.info? f.type).map fun i=>(f.offset,i.size))=some places) (h:(fillK (fun i=>places[i]?) (ps.toList) tm z.cells fun cs=>k (.agg cs) hp nx)=.ok):ValTo P o tm hp nx k:=by
 obtain⟨cs,h,hlen,hf⟩:=fillK_ok _ _ _ _ h
 obtain⟨i,zv,h1,h2,h3,h4⟩:=zeroOf_ok hz
 have key:OVal P o tm hp (.agg cs):=fun B w0 ι nt a w ha hc=>by
  have hz':zv.cells=(renL ι z.cells).toArray:=by rw [<-absV_ren 8 zv z h3 ι,ren_cells]
  have hb:P.built t (ps.map fun x=>(x.1,a.eval x.2)).toList=some (renL ι cs).toArray:=by
   unfold Program.built
   simp only [h1,hu,h2,hp']
   rw [evals_parts,hz',<-hf ι nt a ha]
   congr 1
   funext i
   simp
  simp only [execOp,ho,Sem.run_bind]
  rw [show (ps.map fun x=>match x with | (i,x)=>(i,a.eval x))=ps.map fun x=>(x.1,a.eval x.2) from rfl,run_build w t _ _ hb]
  simp [ren]
 exact val_to key h
theorem buildA_ok {t e:TypeId} {m:Nat} {z:AV} {ps:Array (Nat × Operand)} {ie:TypeInfo} (ho:o.op=.build t ps) (hz:zeroOf P t=some z) (hu:P.underlying t=some (.array m e)) (hi:P.info? e=some ie)
  (h:(fillK (fun i=>some (i*szOf P e,szOf P e)) (ps.toList) tm z.cells fun cs=>k (.agg cs) hp nx)=.ok):ValTo P o tm hp nx k:=by
 obtain⟨cs,h,hlen,hf⟩:=fillK_ok _ _ _ _ h
 obtain⟨i,zv,h1,h2,h3,h4⟩:=zeroOf_ok hz
 have hs:szOf P e=ie.size:=by unfold szOf; rw [hi]; rfl
 have key:OVal P o tm hp (.agg cs):=fun B w0 ι nt a w ha hc=>by
  have hz':zv.cells=(renL ι z.cells).toArray:=by rw [<-absV_ren 8 zv z h3 ι,ren_cells]
  have hb:P.built t (ps.map fun x=>(x.1,a.eval x.2)).toList=some (renL ι cs).toArray:=by
   unfold Program.built
   simp only [h1,hu,h2,hi]
   rw [evals_parts,hz',<-hs]
   exact hf ι nt a ha
  simp only [execOp,ho,Sem.run_bind]
  rw [show (ps.map fun x=>match x with | (i,x)=>(i,a.eval x))=ps.map fun x=>(x.1,a.eval x.2) from rfl,run_build w t _ _ hb]
  simp [ren]
 exact val_to key h
theorem repl_length (l:List AV):∀n,(repl n l).length=n*l.length
 | 0=>by show ([]:List AV).length=_; simp
 | n+1=>by show (l++repl n l).length=_; rw [List.length_append,repl_length l n,Nat.succ_mul]; omega
theorem repl_get (l:List AV) (hl:0<l.length):∀n i,i<n*l.length->(repl n l)[i]?=l[i%l.length]?
 | 0,i,h=>by omega
 | n+1,i,h=>by
   show (l++repl n l)[i]?=_
   by_cases hi:i<l.length
   · rw [List.getElem?_append_left hi,Nat.mod_eq_of_lt hi]
   · rw [Nat.succ_mul] at h
     rw [List.getElem?_append_right (by omega),repl_get l hl n _ (by omega)]
     congr 1
     exact (Nat.mod_eq_sub_mod (by omega)).symm
theorem made_ren (ι:En) (l:List AV) (hl:0<l.length) (n:Nat):(Array.range (n*l.length)).map ((renL ι l).toArray[·%(renL ι l).toArray.size]!)=(renL ι (repl n l)).toArray:=by
 apply Array.ext_getElem?
 intro i
 have e0:(renL ι (repl n l)).toArray[i]?=((repl n l)[i]?).map (ren ι):=by rw [List.getElem?_toArray,renL_get]
 rw [Array.getElem?_map,e0]
 by_cases hi:i<n*l.length
 · rw [repl_get l hl n i hi]
   simp only [Array.getElem?_range,hi,if_true,Option.map_some]
   have hm:i%l.length<l.length:=Nat.mod_lt _ hl
   have hs:(renL ι l).toArray.size=l.length:=by simp [renL_length]
   rw [hs]
   rw [List.getElem?_eq_getElem hm]
   simp only [Option.map_some,Option.some.injEq]
   rw [getElem!_pos _ _ (by rw [hs]; exact hm)]
   have:(renL ι l)[i%l.length]?=some (ren ι (l[i%l.length])):=by rw [renL_get,List.getElem?_eq_getElem hm]; rfl
   rw [List.getElem_toArray]
   rw [List.getElem?_eq_getElem (by rw [renL_length]; exact hm)] at this
   exact Option.some.inj this
 · rw [List.getElem?_eq_none (by rw [repl_length]; omega)]
   simp [hi]
noncomputable def chunk (sz:Nat):Nat->List AV->Nat->Tr (List AV)->Tr (List AV)
 | 0,_,_,c=>c
 | n+1,cs,q,c=>chunk sz n (cs.drop sz) (q+1) (c.set (natPz q) (cs.take sz))
end
end Go.Rex
namespace Go.Rex
open Go.RowKit
theorem chunkK_ok (sz:Nat):∀(n:Nat) (cs:List AV) (q:Nat) (c:Tr (List AV)) (k:Tr (List AV)->Rs),chunkK sz n cs q c k=.ok->n*sz<=cs.length/\k (chunk sz n cs q c)=.ok
 | 0,cs,q,c,k,h=>⟨by omega,h⟩
 | n+1,cs,q,c,k,h=>by
   obtain⟨h1,h⟩:=takeK_ok sz (k:=fun l=>dropK sz cs fun r=>c.setK (natPz q) l fun c=>natF (q+1) fun q=>chunkK sz n r q c k) h
   obtain⟨_,h⟩:=dropK_ok sz h
   rw [Tr.setK_eq,natF_eq] at h
   obtain⟨h2,h⟩:=chunkK_ok sz n _ _ _ k h
   rw [List.length_drop] at h2
   exact⟨by rw [Nat.succ_mul]; omega,h⟩
theorem chunk_get (sz:Nat):∀(n:Nat) (cs:List AV) (q:Nat) (c:Tr (List AV)) (i:Nat),(chunk sz n cs q c).get (natPz i)=if q<=i/\i<q+n then some ((cs.drop ((i-q)*sz)).take sz) else c.get (natPz i)
 | 0,cs,q,c,i=>by simp only [chunk]; rw [if_neg (by omega)]
 | n+1,cs,q,c,i=>by
   simp only [chunk]
   rw [chunk_get sz n]
   by_cases h:q+1<=i/\i<q+1+n
   · rw [if_pos h,if_pos (by omega),List.drop_drop]
     have:i-q=(i-(q+1))+1:=by omega
     rw [this,Nat.succ_mul]
     congr 3
     omega
   · rw [if_neg h]
     by_cases h2:i=q
     · subst h2
       rw [Tr.get_set_same,if_pos (by omega),Nat.sub_self,Nat.zero_mul,List.drop_zero]
     · rw [Tr.get_set_ne (natPz_ne h2),if_neg (by omega)]
theorem objOk_row {ι:En} {hp:Tr AO} {w:World} {nx:Pz} {cs:List AV} {n sz:Nat} {el:TypeId} {c:Tr (List AV)} (hb:w.heap[ι.blk nx]?=some (.cells (renL ι cs).toArray el (0,0))) (hs:ι.sh nx=0) (hlen:cs.length=n*sz)
  (hc:∀q,q<n->c.get (natPz q)=some ((cs.drop (q*sz)).take sz)):ObjOk ι hp w nx (.arr sz n el c):=by
 refine⟨(renL ι cs).toArray,(0,0),hb,hs,by simp [renL_length,hlen],?_,Or.inl rfl⟩
 intro q hq
 have hm:=Nat.mul_le_mul_right sz (Nat.succ_le_of_lt hq)
 rw [Nat.succ_mul] at hm
 refine⟨_,hc q hq,by rw [List.length_take,List.length_drop]; omega,fun r hr=>?_⟩
 rw [Nat.zero_add,List.getElem?_toArray,renL_get,List.getElem?_take,if_pos hr,List.getElem?_drop]
section
variable {P:Program} {o:Oper} {tm:Tm} {hp:Tr AO} {nx:Pz} {k:AV->Tr AO->Pz->Rs} {call:CallT}
theorem buildSlice_ok {t e:TypeId} {len:Nat} {z:AV} {ps:Array (Nat × Operand)} (ho:o.op=.buildSlice t len ps) (hu:P.underlying t=some (.slice e)) (hz:zeroOf P e=some z)
  (hg:(Nat.ble len 10000&&(Nat.ble (szOf P e) 1000&&(Nat.beq z.cells.length (szOf P e)&&Nat.blt 0 (szOf P e))))=true)
  (h:(fillK (fun i=>some (i*szOf P e,szOf P e)) (ps.toList) tm (repl len z.cells) fun cs=>chunkK (szOf P e) len cs 0 .e fun c =>
          newArr hp nx (szOf P e) len e c fun id hp nx=>k (.slice id 0 len len) hp nx)=.ok):NewTo P o tm hp nx k:=by
 obtain⟨cs,h,hlen,hf⟩:=fillK_ok _ _ _ _ h
 obtain⟨_,h⟩:=chunkK_ok _ _ _ _ _ _ h
 rw [newArr_eq] at h
 simp only [Bool.and_eq_true] at hg
 obtain⟨g1,g2,g3,g4⟩:=hg
 have g1:=ble_ok g1
 have g2:=ble_ok g2
 have g3:=beq_ok g3
 have g4:=blt_ok g4
 obtain⟨i,zv,h1,h2,h3,h4⟩:=zeroOf_ok hz
 rw [repl_length,g3] at hlen
 have hmul:len*szOf P e<=10000*1000:=Nat.mul_le_mul g1 g2
 refine⟨_,.arr (szOf P e) len e (chunk (szOf P e) len cs 0 .e),h,rfl,(fun _ _ h=>by cases h),(fun ι nt a ha hs=>⟨_,fun w hb=>?_,fun hp' w' hy=>objOk_row hy hs hlen (fun q hq=>by rw [chunk_get,if_pos (by omega),Nat.sub_zero])⟩)⟩
 have hz':zv.cells=(renL ι z.cells).toArray:=by rw [<-absV_ren 8 zv z h3 ι,ren_cells]
 have hfl:=hf ι nt a ha
 simp only [execOp,ho,Instr.buildSlice,Sem.run_bind,run_und hu,Result.andThen_ok,run_size h1]
 rw [show (ps.map fun x=>match x with | (i,x)=>(i,a.eval x))=ps.map fun x=>(x.1,a.eval x.2) from rfl]
 simp only [Sem.run_ite]
 rw [if_neg (by simp; omega)]
 by_cases h0:len*szOf P e=0
 · have hl0:len=0:=by rcases Nat.mul_eq_zero.1 h0 with h | h<;>omega
   subst hl0
   have hfl0:Instr.fill (fun i=>some (i*szOf P e,szOf P e)) #[] (ps.map fun x=>(x.1,a.eval x.2)).toList=some (renL ι cs).toArray:=by rw [evals_parts]; exact hfl
   simp only [Nat.zero_mul,if_true,Sem.run_bind,Sem.run_pure,Result.andThen_ok]
   rw [show (Array.range 0).map ((#[]:Array Value)[·%(#[]:Array Value).size]!)=#[] by simp]
   rw [hfl0]
   simp only [Sem.run_bind,newRow,run_newObj,Sem.run_pure,Result.andThen_ok,ren,hb,hs]
   rfl
 · have hfl':Instr.fill (fun i=>some (i*szOf P e,szOf P e)) ((Array.range (len*szOf P e)).map ((renL ι z.cells).toArray[·%(renL ι z.cells).toArray.size]!)) (ps.map fun x=>(x.1,a.eval x.2)).toList=some (renL ι cs).toArray:=by
    rw [evals_parts,<-g3,made_ren ι z.cells (by omega) len,g3]; exact hfl
   simp only [if_neg h0,Sem.run_bind,h4 ι,Result.andThen_ok,ren_cells,Sem.run_pure]
   rw [hfl']
   simp only [Sem.run_bind,newRow,run_newObj,Sem.run_pure,Result.andThen_ok,ren,hb,hs]
   rfl
noncomputable def full (l:List AV):Nat->Nat->Tr (List AV)->Tr (List AV)
 | 0,_,c=>c
 | n+1,q,c=>full l n (q+1) (c.set (natPz q) l)
theorem fullK_eq (l:List AV):∀(n q:Nat) (c:Tr (List AV)) (k:Tr (List AV)->Rs),fullK n l q c k=k (full l n q c)
 | 0,_,_,_=>rfl
 | n+1,q,c,k=>by
   show (c.setK (natPz q) l fun c=>natF (q+1) fun q=>fullK n l q c k)=_
   rw [Tr.setK_eq,natF_eq,fullK_eq l n]; rfl
theorem full_get (l:List AV):∀(n q:Nat) (c:Tr (List AV)) (i:Nat),(full l n q c).get (natPz i)=if q<=i/\i<q+n then some l else c.get (natPz i)
 | 0,q,c,i=>by simp only [full]; rw [if_neg (by omega)]
 | n+1,q,c,i=>by
   simp only [full]
   rw [full_get l n]
   by_cases h:q+1<=i/\i<q+1+n
   · rw [if_pos h,if_pos (by omega)]
   · rw [if_neg h]
     by_cases h2:i=q
     · subst h2
       rw [Tr.get_set_same,if_pos (by omega)]
     · rw [Tr.get_set_ne (natPz_ne h2),if_neg (by omega)]
theorem makeSlice_ok {t e:TypeId} {x y:Operand} {z:AV} (ho:o.op=.makeSlice t x y) (hu:P.underlying t=some (.slice e)) (hz:zeroOf P e=some z)
  (hg:(Nat.beq z.cells.length (szOf P e)&&(Nat.ble (szOf P e) 1000&&(Nat.blt 0 (szOf P e)&&Nat.ble (P.bytesOf e) 1000000)))=true)
  (h:((evB x).run tm fun l=>(evB y).run tm fun c=>asNat l fun l=>asNat c fun c=>ifK (Nat.ble l c&&Nat.ble c 10000)
          (fullK c z.cells 0 .e fun cs=>newArr hp nx (szOf P e) c e cs fun id hp nx=>k (.slice id 0 l c) hp nx) (.bad 140))=.ok):NewTo P o tm hp nx k:=by
 obtain⟨lv,h,hl⟩:=evB_ok h
 obtain⟨cv,h,hcv⟩:=evB_ok h
 obtain⟨kl,l,rfl,h2⟩:=asNat_ok h
 obtain⟨kc,c,rfl,h3⟩:=asNat_ok h2
 obtain⟨hb1,h4⟩:=ifK_ok h3
 rw [fullK_eq,newArr_eq] at h4
 simp only [Bool.and_eq_true] at hg hb1
 obtain⟨g1,g2,g3,g5⟩:=hg
 have g1:=beq_ok g1
 have g2:=ble_ok g2
 have g3:=blt_ok g3
 have g5:=ble_ok g5
 have b1:=ble_ok hb1.1
 have b2:=ble_ok hb1.2
 obtain⟨i,zv,q1,q2,q3,q4⟩:=zeroOf_ok hz
 have hbytes:P.bytesOf e=i.bytes:=by unfold Program.bytesOf; rw [q1]; rfl
 have hsz:i.size=szOf P e:=by unfold szOf; rw [q1]; rfl
 have hm:i.bytes*c<=1000000*10000:=Nat.mul_le_mul (by omega) b2
 refine⟨_,.arr (szOf P e) c e (full z.cells c 0 .e),h4,rfl,(fun _ _ h=>by cases h),(fun ι nt a ha hs=>⟨.cells (renL ι (repl c z.cells)).toArray e (0,0),fun w hb=>?_,fun hp' w' hy=>objOk_row (cs:=repl c z.cells) hy hs (by rw [repl_length,g1]) (fun q hq=>?_)⟩)⟩
 · have hz':zv.cells=(renL ι z.cells).toArray:=by rw [<-absV_ren 8 zv z q3 ι,ren_cells]
   simp only [execOp,ho,Sem.run_bind]
   rw [hl ι nt a ha,hcv ι nt a ha,ren_int,ren_int]
   rw [run_make w t e i zv hu q1 q2 kl kc l c (by omega) (by omega) (by omega) (by omega)]
   simp only [Result.andThen_ok,Sem.run_pure,Int.toNat_natCast,ren,hb,hs]
   have:madeCells zv.cells (c*i.size)=(renL ι (repl c z.cells)).toArray:=by
    unfold madeCells
    rw [hz',hsz,<-g1]
    exact made_ren ι z.cells (by omega) c
   rw [this]
 · rw [full_get,if_pos (by omega)]
   congr 1
   apply List.ext_getElem?
   intro r
   have hmm:=Nat.mul_le_mul_right (szOf P e) (Nat.succ_le_of_lt hq)
   rw [Nat.succ_mul] at hmm
   by_cases hr:r<szOf P e
   · rw [List.getElem?_take,if_pos hr,List.getElem?_drop,repl_get _ (by omega) _ _ (by rw [g1]; omega),g1]
     congr 1
     rw [Nat.add_comm,Nat.add_mul_mod_self_right,Nat.mod_eq_of_lt hr]
   · rw [List.getElem?_eq_none (by omega),List.getElem?_eq_none (by rw [List.length_take]; omega)]
end
end Go.Rex
namespace Go.Rex
open Go.RowKit
section
variable {P:Program}
theorem growBy_le:∀(r c n:Nat),Builtin.growBy n r c<=c*2 ^ r+768*2 ^ r
 | 0,c,n=>by simp [Builtin.growBy]
 | r+1,c,n=>by
   simp only [Builtin.growBy]
   split
   · have:1<=2 ^ (r+1):=Nat.one_le_two_pow
     have:=Nat.mul_le_mul_left c this
     omega
   · refine Nat.le_trans (growBy_le r _ n) ?_
     have h1:c+(c+768)/4<=2*c+768:=by omega
     have h2:=Nat.mul_le_mul_right (2 ^ r) h1
     rw [Nat.pow_succ]
     generalize 2 ^ r=t at *
     generalize c+(c+768)/4=y at *
     have e1:(2*c+768)*t=2*(c*t)+768*t:=by rw [Nat.add_mul,Nat.mul_assoc]
     have e2:c*(t*2)=2*(c*t):=by rw [Nat.mul_comm t 2,Nat.mul_left_comm]
     rw [e1] at h2
     rw [e2]
     omega
theorem nextcap_le {need cap:Nat} (h:cap<need):Builtin.nextslicecap need cap<=16*need+12288:=by
 unfold Builtin.nextslicecap
 split
 · omega
 · split
   · omega
   · have:=growBy_le 4 cap need
     omega
structure ApT (P:Program) (ts tx e:TypeId) (i:TypeInfo) (z:Value) (d:TypeDesc):Prop where
 ts:P.underlying ts=some (.slice e)
 tx:P.underlying tx=some d
 ni:∀k,d≠.int k
 inf:P.info? e=some i
 zer:i.zero=some z
 byt:i.bytes<=1000000
theorem run_append_fit {ts tx e:TypeId} {i:TypeInfo} {z:Value} {d:TypeDesc} (hT:ApT P ts tx e i z d) {ty:TypeId} {w:World} {b o len cap n:Nat} {x:Value} {nw:List Value}
  (hx:(Builtin.lenOf x).run P w=.ok n w) (hf:(Builtin.firstCells (szOf P e) n x).run P w=.ok nw.toArray w) (hn:len+n<=cap) (hv:∀v∈nw,oneV v=true) (hc:CanPut w b (o+len*szOf P e) nw.length) :
  (Builtin.append_ #[ts,tx] ty #[.slice (some ⟨b,o,none⟩) len cap,x]).run P w=.ok (.slice (some ⟨b,o,none⟩) (len+n) cap) (putCells w b (o+len*szOf P e) nw):=by
 have htx:=hT.tx
 have hni:=hT.ni
 have hs:=run_storeCells (P:=P) b (o+len*szOf P e) nw 0 w hv (by rw [Nat.add_zero]; exact hc)
 rw [Nat.add_zero] at hs
 cases d
 case int=>exact absurd rfl (hni _)
 all_goals
  simp only [Builtin.append_,List.getElem?_toArray,List.getElem?_cons_zero,List.getElem?_cons_succ]
  simp only [Sem.run_bind,run_und hT.ts,run_und htx,Result.andThen_ok,Sem.run_pure,run_size hT.inf,Bool.false_eq_true,if_false,hx,Sem.run_ite]
  rw [if_pos hn]
  simp only [Sem.run_bind,Bool.not_false,if_true,hf,Result.andThen_ok]
  rw [addr_add]
  simp only [Sem.run_bind,hs,Result.andThen_ok,Sem.run_pure]
theorem run_append_stay {ts tx e:TypeId} {i:TypeInfo} {z:Value} {d:TypeDesc} (hT:ApT P ts tx e i z d) {ty:TypeId} {w:World} {x:Value} {a:Addr}
  (hx:(Builtin.lenOf x).run P w=.ok 0 w) (hf:(Builtin.firstCells (szOf P e) 0 x).run P w=.ok #[] w) :
  (Builtin.append_ #[ts,tx] ty #[.slice (some a) 0 0,x]).run P w=.ok (.slice (some a) 0 0) w:=by
 have htx:=hT.tx
 have hni:=hT.ni
 cases d
 case int=>exact absurd rfl (hni _)
 all_goals
  simp only [Builtin.append_,List.getElem?_toArray,List.getElem?_cons_zero,List.getElem?_cons_succ]
  simp only [Sem.run_bind,run_und hT.ts,run_und htx,Result.andThen_ok,Sem.run_pure,run_size hT.inf,Bool.false_eq_true,if_false,hx]
  simp [hf,storeCells]
theorem run_append_fitR {ts tx e:TypeId} {i:TypeInfo} {z:Value} {d:TypeDesc} (hT:ApT P ts tx e i z d) {ty:TypeId} {w:World} {b o len cap n:Nat} {x:Value} {nw:List Value} (hl:nw.length=n*szOf P e)
  (hx:(Builtin.lenOf x).run P w=.ok n w) (hf:(Builtin.firstCells (szOf P e) n x).run P w=.ok nw.toArray w) (hn:len+n<=cap) (hv:∀v∈nw,oneV v=true) (hc:CanPut w b (o+len*szOf P e) nw.length) :
  (Builtin.append_ #[ts,tx] ty #[.slice (some (radr b o len cap)) len cap,x]).run P w=.ok (.slice (some (radr b o (len+n) cap)) (len+n) cap) (putCells w b (o+len*szOf P e) nw):=by
 by_cases h0:len=0/\cap=0
 · obtain⟨rfl,rfl⟩:=h0
   obtain rfl:n=0:=by omega
   obtain rfl:nw=[]:=List.length_eq_zero_iff.1 (by rw [hl]; simp)
   exact run_append_stay hT hx hf
 · rw [radr_pos h0,radr_pos (by omega)]
   exact run_append_fit hT hx hf hn hv hc
theorem run_append_none {ts tx e:TypeId} {i:TypeInfo} {z:Value} {d:TypeDesc} (hT:ApT P ts tx e i z d) {ty:TypeId} {w:World} {x:Value} {nw:List Value}
  (hx:(Builtin.lenOf x).run P w=.ok 0 w) (hf:(Builtin.firstCells (szOf P e) 0 x).run P w=.ok nw.toArray w) :
  (Builtin.append_ #[ts,tx] ty #[.slice none 0 0,x]).run P w=.ok (.slice none 0 0) w:=by
 have htx:=hT.tx
 have hni:=hT.ni
 cases d
 case int=>exact absurd rfl (hni _)
 all_goals
  simp only [Builtin.append_,List.getElem?_toArray,List.getElem?_cons_zero,List.getElem?_cons_succ]
  simp only [Sem.run_bind,run_und hT.ts,run_und htx,Result.andThen_ok,Sem.run_pure,run_size hT.inf,Bool.false_eq_true,if_false,hx]
  simp [hf]
theorem run_append_grow {ts tx e:TypeId} {i:TypeInfo} {z:Value} {d:TypeDesc} (hT:ApT P ts tx e i z d) {ty:TypeId} {w:World} {base:Option Addr} {len cap n:Nat} {x:Value} {old nw:List Value}
  (hx:(Builtin.lenOf x).run P w=.ok n w) (hf:(Builtin.firstCells (szOf P e) n x).run P w.drew=.ok nw.toArray w.drew)
  (ho:(Builtin.firstCells (szOf P e) len (.slice base len cap)).run P w.drew=.ok old.toArray w.drew) (hn:cap<len+n) (hsm:len+n<=1000000) :
  ∃c rest,len+n<=c/\(Builtin.append_ #[ts,tx] ty #[.slice base len cap,x]).run P w=.ok (.slice (some ⟨w.heap.size,0,none⟩) (len+n) c) (w.drew.alloc (.cells (old++nw++rest).toArray e (0,0)))/\rest.length=(c-(len+n))*z.cells.size:=by
 have htx:=hT.tx
 have hni:=hT.ni
 have hcap:=nextcap_le hn
 have hb:Builtin.nextslicecap (len+n) cap*i.bytes<=(16*1000000+12288)*1000000:=Nat.mul_le_mul (by omega) hT.byt
 have hmax:¬(((len+n:Nat):Int) > IntKind.i64.max/\i.bytes=0):=by
  have:IntKind.i64.max=9223372036854775807:=by decide
  rw [this]
  omega
 have ee:∀Z:Array Value,old.toArray++nw.toArray++Z=(old++nw++Z.toList).toArray:=fun Z=>by apply Array.ext'; simp
 have hbig:¬Builtin.nextslicecap (len+n) cap*i.bytes > 2 ^ 48:=by omega
 refine⟨(Question.appendCap (len+n) cap e).cut (w.tape w.drawn (.appendCap (len+n) cap e)),(Builtin.zeroCells z.cells ((Question.appendCap (len+n) cap e).cut (w.tape w.drawn (.appendCap (len+n) cap e))-(len+n))).toList,?_,?_,?_⟩
 · simp only [Question.cut]; omega
 · cases d
   case int=>exact absurd rfl (hni _)
   all_goals
    simp only [Builtin.append_,List.getElem?_toArray,List.getElem?_cons_zero,List.getElem?_cons_succ]
    simp only [Sem.run_bind,run_und hT.ts,run_und htx,Result.andThen_ok,Sem.run_pure,run_size hT.inf,Bool.false_eq_true,if_false,hx,Sem.run_ite]
    rw [if_neg (by omega)]
    simp only [Sem.run_bind,run_typ hT.inf,Result.andThen_ok,Sem.run_ite,false_or,if_neg hmax,if_neg hbig]
    simp only [Sem.run_bind,run_choose,Question.forced,Bool.false_eq_true,if_false,Result.andThen_ok,run_askRoom]
    have e1:({ w with drawn:=w.drawn+1 }:World)=w.drew:=rfl
    simp only [e1,Sem.run_pure,Result.andThen_ok,run_typ hT.inf,Bool.not_false,if_true,ho,hf,run_askRoom,Sem.run_bind,zeroValue,hT.zer,newRow,run_newObj,ee]
    rfl
 · simp [Builtin.zeroCells]
end
end Go.Rex
namespace Go.Rex
open Go.RowKit
theorem evenK_ok (sz:Nat):∀{ls:List (List AV)},evenK sz ls=true->even sz ls/\flat ls.flatten=true
 | [],_=>⟨fun l hl=>by simp at hl,rfl⟩
 | l::ls,h=>by
   have h:Bool.rec (motive:=fun _=>Bool) false (evenK sz ls) (Nat.beq l.length sz&&flat l)=true:=h
   cases hb:(Nat.beq l.length sz&&flat l) with
   | false=>rw [hb] at h; cases h
   | true =>
     rw [hb] at h
     rw [Bool.and_eq_true] at hb
     obtain⟨h1,h2⟩:=evenK_ok sz h
     refine⟨fun x hx=>?_,by rw [List.flatten_cons]; exact flat_append hb.2 h2⟩
     rcases List.mem_cons.1 hx with rfl | hx
     · exact beq_ok hb.1
     · exact h1 x hx
def strL (l n:Nat):List (List AV):=(bytesOf l n).map fun b=>[.int .u8 (.ofNat b.toNat)]
theorem strElems_ok:∀(l n:Nat) (acc:List (List AV)) (k:List (List AV)->Rs),strElems l n acc k=k (strL l n++acc)
 | 0,n,acc,k=>rfl
 | l+1,n,acc,k=>by
   show (natF (Nat.mod n 256) fun b=>natF (Nat.div n 256) fun n=>strElems l n ([.int .u8 (.ofNat b)]::acc) k)=_
   rw [natF_eq,natF_eq,strElems_ok l]
   unfold strL
   simp only [bytesOf,List.map_append,List.map_cons,List.map_nil,List.append_assoc,List.cons_append,List.nil_append]
   congr 3
   show [AV.int .u8 (.ofNat (n%256))]=[AV.int .u8 (.ofNat (UInt8.ofNat (n%256)).toNat)]
   rw [UInt8.toNat_ofNat']
   congr 3
   omega
structure SrcOk (P:Program) (sz:Nat) (v:AV) (ls:List (List AV)) (ι:En) (w:World):Prop where
 even:even sz ls
 len:(Builtin.lenOf (ren ι v)).run P w=.ok ls.length w
 cells:(Builtin.firstCells sz ls.length (ren ι v)).run P w=.ok (renL ι ls.flatten).toArray w
theorem elemsOf_ok {P:Program} {hp:Tr AO} {sz:Nat} {v:AV} {k:List (List AV)->Rs} (h:elemsOf hp sz v k=.ok):∃ls,k ls=.ok/\∀B w0 ι w,Core B w0 ι hp w->SrcOk P sz v ls ι w:=by
 unfold elemsOf at h
 split at h
 · exact⟨[],h,fun B w0 ι w hc=>⟨fun l hl=>by simp at hl,by simp [ren,Builtin.lenOf],by simp [ren,renL,Builtin.firstCells]⟩⟩
 · rename_i id off len cap
   obtain⟨ls,h,hl,hr⟩:=readElems_ok _ _ _ _ _ _ h
   refine⟨ls,h,fun B w0 ι w hc=>?_⟩
   obtain⟨h1,h2⟩:=hr B w0 ι w hc
   refine⟨h1,by simp [ren,Builtin.lenOf,hl],?_⟩
   simp only [ren,Builtin.firstCells]
   exact run_cells h2 (even_length h1)
 · rename_i id off len skip
   obtain⟨ls,h,hl,hr⟩:=readElems_ok _ _ _ _ _ _ h
   refine⟨ls,h,fun B w0 ι w hc=>?_⟩
   obtain⟨h1,h2⟩:=hr B w0 ι w hc
   refine⟨h1,by simp [ren,Builtin.lenOf,hl],?_⟩
   simp only [ren,Builtin.firstCells]
   exact run_cells h2 (even_length h1)
 · rename_i l n
   obtain⟨h1,h⟩:=ifK_ok h
   have h1:=beq_ok h1
   subst h1
   rw [strElems_ok,List.append_nil] at h
   refine⟨_,h,fun B w0 ι w hc=>⟨fun x hx=>?_,?_,?_⟩⟩
   · unfold strL at hx
     obtain⟨b,_,rfl⟩:=List.mem_map.1 hx
     rfl
   · simp only [ren,Builtin.lenOf,Sem.run_pure,strL,List.length_map]
     rw [show (ByteArray.mk (bytesOf l n).toArray).size=(bytesOf l n).length from by show (bytesOf l n).toArray.size=_; simp]
   · simp only [ren,Builtin.firstCells,Sem.run_pure,strL,List.length_map,bytesOf_length]
     congr 1
     apply Array.ext'
     have e1:((ByteArray.mk (bytesOf l n).toArray).extract 0 l).data=(bytesOf l n).toArray:=by
      rw [ByteArray.data_extract]
      apply Array.ext'
      simp
      rw [List.take_of_length_le (by rw [bytesOf_length]; exact Nat.le_refl _)]
     rw [e1]
     simp only [List.map_toArray,renL_eq]
     generalize bytesOf l n=bs
     induction bs with
     | nil=>rfl
     | cons b bs ih=>simp only [List.map_cons,List.flatten_cons,List.cons_append,List.nil_append,List.map_append]; rw [<-ih]; simp [ren]
 · cases h
theorem core_lt {B:Nat->Prop} {w0 w:World} {ι:En} {hp:Tr AO} (hc:Core B w0 ι hp w):∀i p,hp.get i=some p->own hp p->ι.blk i<w.heap.size:=by
 intro i p hi hp'
 have:=hc.obj _ _ hi
 cases p with
 | arr es n el c=>obtain⟨C,fz,h1,_⟩:=this; exact (Array.getElem?_eq_some_iff.1 h1).1
 | seg f e tp es n el c=>obtain⟨C,fz,h1,_⟩:=this hp'; exact (Array.getElem?_eq_some_iff.1 h1).1
 | fam=>exact hp'.elim
 | map es c=>obtain⟨E,h1,_⟩:=this; exact (Array.getElem?_eq_some_iff.1 h1).1
 | iter=>exact (Array.getElem?_eq_some_iff.1 this.1).1
 | loop=>obtain⟨_,_,_,h1,_⟩:=this; exact (Array.getElem?_eq_some_iff.1 h1).1
 | dmark=>exact (Array.getElem?_eq_some_iff.1 this).1
 | gone=>exact gone_lt this
theorem grow_core {B:Nat->Prop} {w0 w:World} {ι:En} {hp:Tr AO} {nx:Pz} {sz n cap:Nat} {el:TypeId} {c:Tr (List AV)} {C:Array Value} {fz:Nat × Nat} (hw:Wf hp nx) (hc:Core B w0 ι hp w) (hb:ι.blk nx.succ=w.heap.size) (hs:ι.sh nx.succ=0) (hk:ι.kap nx.succ=cap)
  (hn:n<=cap) (hC:cap*sz<=C.size) (hcells:cellsAt ι C 0 sz n c) (hfz:unfrozen fz C.size) :
  Core B w0 ι ((hp.set nx (.fam 0 true)).set nx.succ (.seg nx 0 true sz n el c)) (w.alloc (.cells C el fz)):=by
 have hw1:=wf_fam (ep:=0) (s:=true) hw
 have hc1:=core_fam (ep:=0) (s:=true) hw hc
 have hlt:=core_lt hc1
 have hroom:=hc.room
 refine core_child hw1 hc1 (fun _=>⟨C,fz,by rw [hb]; exact heap_alloc_new _ _,by rw [hs,hk]; omega,by rw [hk]; exact hn,by rw [hs]; exact hcells,hfz⟩) (fun i o hi ho=>?_) (hc.below.alloc hc.room _) (fun k hk=>by have:=hc.room k hk; simp; omega) (by rw [hb]; exact fun h=>by have:=hc.room _ h; omega) (fun i o hi ho e=>?_) (fun _ i f' e' tp' es' n' el' c' hi hl=>⟨fun e=>?_,fun e _=>?_⟩) (fun i f' e' es' n' el' c' hi hl=>⟨fun e=>?_,fun e _=>?_⟩)
 · exact (hc1.obj i o hi).keep (fun x=>x) fun _=>Below.heap_alloc _ _ _ (hlt i o hi ho)
 · have:=hlt i o hi ho; rw [e,hb] at this; omega
 · rcases get_set_cases hi with ⟨_,h⟩ | ⟨_,h⟩
   · cases h
   · have:=hw.fam _ _ _ _ _ _ _ _ h; rw [<-e] at this; omega
 · have:=hlt i _ hi hl; rw [<-e,hb] at this; omega
 · rcases get_set_cases hi with ⟨_,h⟩ | ⟨_,h⟩
   · cases h
   · have:=hw.fam _ _ _ _ _ _ _ _ h; rw [e] at this; omega
 · have:=hlt i _ hi hl; rw [e,hb] at this; omega
theorem grow_wf {hp:Tr AO} {nx:Pz} {sz n:Nat} {el:TypeId} {c:Tr (List AV)} (hw:Wf hp nx):Wf ((hp.set nx (.fam 0 true)).set nx.succ (.seg nx 0 true sz n el c)) nx.succ.succ:=by
 refine wf_child (s:=true) (wf_fam hw) (Tr.get_set_same _ _ _) (fun _ i e tp es n el c h=>?_)
 rcases get_set_cases h with ⟨_,h⟩ | ⟨_,h⟩
 · cases h
 · have:=hw.fam _ _ _ _ _ _ _ _ h; omega
section
variable {P:Program} {o:Oper} {tm:Tm} {hp:Tr AO} {nx:Pz} {k:AV->Tr AO->Pz->Rs} {call:CallT}
theorem grow_eff {sz n:Nat} {el:TypeId} {c:Tr (List AV)} (h:∀B w0 ι nt a w,TmpOk ι nt tm a->Core B w0 ι hp w->∃cap C fz w1,Core B w0 ι hp w1/\w1.heap.size=w.heap.size/\(execOp a.eval o).run P w=.ok (.value (.slice (some ⟨w.heap.size,0,none⟩) n cap)) (w1.alloc (.cells C el fz)) /\
      n<=cap/\cap*sz<=C.size/\cellsAt ι C 0 sz n c/\unfrozen fz C.size):Eff P o tm hp nx (.oslice nx.succ 0 n 0) ((hp.set nx (.fam 0 true)).set nx.succ (.seg nx 0 true sz n el c)) nx.succ.succ:=by
 refine⟨by rw [Pz.num_succ,Pz.num_succ]; omega,fun hw=>grow_wf hw,fun B w0 nt a w ι hs=>?_⟩
 obtain⟨t1,c1⟩:=hs.2 ι (Agree.refl _ _)
 obtain⟨cap,C,fz,w1,hc1,hsz,hr,h1,h2,h3,h4⟩:=h B w0 ι nt a w t1 c1
 have hag:Agree nx ι (ι.at nx.succ w.heap.size 0 cap):=fun id hid=>agree_at ι nx.succ _ _ _ id (by rw [Pz.num_succ]; omega)
 refine⟨_,_,_,hag,.inl hr,fun ι' hι=>?_⟩
 obtain⟨ha,hb,hsh,hkp⟩:=agree_at' hι
 have hag':Agree nx ι ι':=fun id hid=>ha id (by rw [Pz.num_succ]; omega)
 obtain⟨t2,c2⟩:=hs.2 ι' hag'
 obtain⟨cap',C',fz',w1',hc1',hsz',hr',h1',h2',h3',h4'⟩:=h B w0 ι' nt a w t2 c2
 rw [hr] at hr'
 simp only [Result.ok.injEq,Next.value.injEq,Value.slice.injEq] at hr'
 obtain⟨⟨_,_,hcap⟩,hw'⟩:=hr'
 subst hcap
 rw [hw']
 refine⟨grow_core hs.1 hc1' (by rw [hb,hsz']) hsh hkp h1' h2' h3' h4',?_⟩
 simp [ren,hb,hsh,hkp]
end
end Go.Rex
namespace Go.Rex
open Go.RowKit
theorem old_cells {ι:En} {w:World} {id:Pz} {es n:Nat} {c:Tr (List AV)} (h:RowAt ι w id es n c) {off len:Nat} (hl:off+len<=n*es) :
  ∃l:List Value,l.length=len/\∀j,j<len->w.cell? ⟨ι.blk id,ι.sh id+(off+j),none⟩=l[j]?:=by
 obtain⟨C,el,fz,h1,h2,h3,h4⟩:=h
 refine⟨(C.toList.drop (ι.sh id+off)).take len,by rw [List.length_take,List.length_drop,Array.length_toList]; omega,fun j hj=>?_⟩
 rw [cell_of h1,List.getElem?_take,if_pos hj,List.getElem?_drop,Array.getElem?_toList,Nat.add_assoc]
theorem first_of {P:Program} {w:World} {b o n sz cap len:Nat} {l:List Value} (hl:l.length=n*sz) (h:∀j,j<n*sz->w.cell? ⟨b,o+j,none⟩=l[j]?):(Builtin.firstCells sz n (.slice (some ⟨b,o,none⟩) len cap)).run P w=.ok l.toArray w:=by
 simp only [Builtin.firstCells]
 exact run_loadCells hl.symm (fun j hj=>h j (by omega))
theorem first_ofR {P:Program} {w:World} {b o sz cap len:Nat} {l:List Value} (hl:l.length=len*sz) (h:∀j,j<len*sz->w.cell? ⟨b,o+j,none⟩=l[j]?):(Builtin.firstCells sz len (.slice (some (radr b o len cap)) len cap)).run P w=.ok l.toArray w:=by
 by_cases h0:len=0/\cap=0
 · obtain⟨rfl,rfl⟩:=h0
   obtain rfl:l=[]:=List.length_eq_zero_iff.1 (by rw [hl]; simp)
   simp [Builtin.firstCells,loadCells,loadCellsFrom]
 · rw [radr_pos h0]; exact first_of hl h
theorem cellsAt_old {ι:En} {w:World} {id:Pz} {es n:Nat} {c:Tr (List AV)} (h:RowAt ι w id es n c) {len:Nat} (hl:len<=n) {C':Array Value} {base:Nat} (hC:∀i,i<len*es->C'[base+i]?=w.cell? ⟨ι.blk id,ι.sh id+i,none⟩):cellsAt ι C' base es len c:=by
 obtain⟨C,el,fz,h1,h2,h3,h4⟩:=h
 intro q hq
 obtain⟨l,g1,g2,g3⟩:=h3 q (by omega)
 refine⟨l,g1,g2,fun r hr=>?_⟩
 have hm:=Nat.mul_le_mul_right es (Nat.succ_le_of_lt hq)
 rw [Nat.succ_mul] at hm
 rw [hC _ (by omega),cell_of h1,g3 r hr]
section
variable {P:Program} {o:Oper} {tm:Tm} {hp:Tr AO} {nx:Pz} {k:AV->Tr AO->Pz->Rs} {call:CallT}
theorem call_two {c:Call} {b:Builtin} {ts tx:TypeId} {s x:Operand} (ho:o.op=.call c) (hc:c.callee=.builtin b) (ht:c.argTypes.toList=[ts,tx]) (hx:c.args.toList=[s,x]) {a:Act} {w:World} {f:Array TypeId->TypeId->Array Value->Sem Value}
  (hb:∀ats ty cs as,builtin b ats ty cs as=(do pure (.value (<-f ats ty as)))):(execOp a.eval o).run P w=((f #[ts,tx] o.type #[a.eval s,a.eval x]).run P w).andThen fun v w'=>.ok (.value v) w':=by
 have hargs:c.args.map a.eval=#[a.eval s,a.eval x]:=by rw [map_mk,hx]; rfl
 have hats:c.argTypes=#[ts,tx]:=by apply Array.ext'; rw [ht]
 simp only [execOp,ho,resolve,hc,hargs,hats,Sem.run_bind,Sem.run_pure,Result.andThen_ok,invoke,hb]
theorem append_sound {c:Call} {ts tx e:TypeId} {d:TypeDesc} {s x:Operand} {z:AV} (ho:o.op=.call c) (hc:c.callee=.builtin .append) (ht:c.argTypes.toList=[ts,tx]) (hx:c.args.toList=[s,x])
  (hts:P.underlying ts=some (.slice e)) (htx:P.underlying tx=some d) (hni:∀kd,d≠.int kd) (hz:zeroOf P e=some z) (hg:(Nat.ble (P.bytesOf e) 1000000&&(Nat.beq z.cells.length (szOf P e)&&Nat.blt 0 (szOf P e)))=true)
  (htail:∀(v:AV) (id:Pz) (off len skip:Nat) (ls:List (List AV)),(∀ι nt a,TmpOk ι nt tm a->a.eval s=ren ι (.oslice id off len skip))->(∀ι nt a,TmpOk ι nt tm a->a.eval x=ren ι v)->(∀B w0 ι w,Core B w0 ι hp w->SrcOk P (szOf P e) v ls ι w) ->
   evenK (szOf P e) ls=true->appendK hp nx e (szOf P e) (.oslice id off len skip) ls k=.ok->OpTo P o tm hp nx k)
  (h:((evB s).run tm fun s=>(evB x).run tm fun x=>elemsOf hp (szOf P e) x fun ls=>appendK hp nx e (szOf P e) s ls k)=.ok):OpTo P o tm hp nx k:=by
 obtain⟨sv,h,hsv⟩:=evB_ok h
 obtain⟨xv,h,hxv⟩:=evB_ok h
 obtain⟨ls,h,hsrc⟩:=elemsOf_ok (P:=P) h
 obtain⟨i,zv,q1,q2,q3,q4⟩:=zeroOf_ok hz
 simp only [Bool.and_eq_true] at hg
 obtain⟨g1,g2,g3⟩:=hg
 have g1:=ble_ok g1
 have g2:=beq_ok g2
 have g3:=blt_ok g3
 have hbytes:P.bytesOf e=i.bytes:=by unfold Program.bytesOf; rw [q1]; rfl
 have hT:ApT P ts tx e i zv d:=⟨hts,htx,hni,q1,q2,by omega⟩
 have hzs:∀ι:En,zv.cells.size=szOf P e:=fun ι=>by rw [<-absV_ren 8 zv z q3 ι,ren_cells]; simp [renL_length,g2]
 have hrun:∀(a:Act) (w:World),(execOp a.eval o).run P w=((Builtin.append_ #[ts,tx] o.type #[a.eval s,a.eval x]).run P w).andThen fun v w'=>.ok (.value v) w':=fun a w=>call_two ho hc ht hx (fun _ _ _ _=>rfl)
 have h0:=h
 obtain⟨hev,h⟩:=ifK_ok h
 obtain⟨he,hfl⟩:=evenK_ok _ hev
 rw [natF_eq] at h
 have grown:∀(base:AV) (len cap:Nat) (pre:List (List AV)) (c0:Tr (List AV)),(∀ι nt a,TmpOk ι nt tm a->a.eval s=ren ι base)->smallRow (len+ls.length) (szOf P e)=true->cap<len+ls.length ->
   (∀B w0 ι w,Core B w0 ι hp w->∃(bb:Option Addr) (old:List Value),ren ι base=.slice bb len cap/\(Builtin.firstCells (szOf P e) len (.slice bb len cap)).run P w.drew=.ok old.toArray w.drew/\old.length=len*szOf P e /\
    ∀C':Array Value,(∀i,i<len*szOf P e->C'[i]?=old[i]?)->(∀i,i<ls.length*szOf P e->C'[len*szOf P e+i]?=((ls.flatten)[i]?).map (ren ι))->cellsAt ι C' 0 (szOf P e) (len+ls.length) c0) ->
   Eff P o tm hp nx (.oslice nx.succ 0 (len+ls.length) 0) ((hp.set nx (.fam 0 true)).set nx.succ (.seg nx 0 true (szOf P e) (len+ls.length) e c0)) nx.succ.succ:=by
  intro base len cap pre c0 hbase hsm hcap hold
  unfold smallRow at hsm
  rw [Bool.and_eq_true] at hsm
  have hsm1:=ble_ok hsm.1
  refine grow_eff (fun B w0 ι nt a w ha hcc=>?_)
  obtain⟨bb,old,e1,e2,e3,e4⟩:=hold B w0 ι w hcc
  have hs:=hsrc B w0 ι w hcc
  have hs':=hsrc B w0 ι w.drew (core_drew hcc)
  obtain⟨cc,rest,r1,r2,r3⟩:=run_append_grow hT (ty:=o.type) (x:=ren ι xv) hs.len hs'.cells e2 hcap hsm1
  refine⟨cc,(old++renL ι ls.flatten++rest).toArray,(0,0),w.drew,core_drew hcc,rfl,?_,r1,?_,e4 _ (fun i hi=>?_) (fun i hi=>?_),Or.inl rfl⟩
  · rw [hrun,hbase ι nt a ha,hxv ι nt a ha,e1,r2]; rfl
  · rw [List.size_toArray,List.length_append,List.length_append,e3,renL_length,even_length he,r3,hzs ι,<-Nat.add_mul,<-Nat.add_mul]
    exact Nat.le_of_eq (by congr 1; omega)
  · rw [List.getElem?_toArray,List.append_assoc,List.getElem?_append_left (by omega)]
  · rw [List.getElem?_toArray,List.append_assoc,List.getElem?_append_right (by omega),e3,Nat.add_sub_cancel_left,List.getElem?_append_left (by rw [renL_length,even_length he]; exact hi),renL_get]
 have nwone:∀ι:En,∀v∈renL ι ls.flatten,oneV v=true:=fun ι=>renL_flat ι _ hfl
 cases sv with
 | nils =>
   rcases ifK_two h with ⟨hm,h⟩ | ⟨hm,h⟩
   · have hm:=beq_ok hm
     have key:OVal P o tm hp .nils:=fun B w0 ι nt a w ha hcc=>by
      have hs:=hsrc B w0 ι w hcc
      rw [hrun,hsv ι nt a ha,hxv ι nt a ha]
      simp only [ren]
      have e1:=hs.len
      have e2:=hs.cells
      rw [hm] at e1 e2
      rw [run_append_none hT e1 e2]; rfl
     exact (val_to key h).to
   · obtain⟨hsm,h⟩:=ifK_ok h
     unfold grow at h
     rw [natF_eq,layK_eq,newObj_eq,newObj_eq] at h
     have hm:=beq_no hm
     have:=grown .nils 0 0 [] (lay ls 0 .e) (fun ι nt a ha=>hsv ι nt a ha) (by rw [Nat.zero_add]; exact hsm) (by omega) (fun B w0 ι w hcc=>⟨none,[],rfl,by simp [Builtin.firstCells],by simp,fun C' _ hn=>cellsAt_lay (C:=C') (cellsAt_nil _ _ _ _ _) he (fun i hi=>rfl) (fun i hi=>by rw [Nat.zero_add]; exact hn i hi)⟩)
     rw [Nat.zero_add] at this
     exact this.to h
 | slice id off len cap =>
   simp only [natF_eq] at h
   rcases ifK_two h with ⟨hb,h⟩ | ⟨hb,h⟩
   · have hb:=ble_ok hb
     obtain⟨hp1,h,hf1,_,hput⟩:=writeElems_ok _ _ _ _ _ _ h
     have key:OWr P o tm hp nx (.slice id off (len+ls.length) cap) hp1:=by
      refine⟨hput.1 nx,fun B w0 ι nt a w hw ha hcc=>?_⟩
      obtain⟨c1,c2⟩:=hput.2 B w0 ι w nx hw hcc
      have hs:=hsrc B w0 ι w hcc
      refine⟨_,_,.inl ?_,rfl,c1⟩
      rw [hrun,hsv ι nt a ha,hxv ι nt a ha]
      simp only [ren]
      have:=run_append_fit hT (ty:=o.type) (b:=ι.blk id) (o:=ι.sh id+off) (cap:=cap) hs.len hs.cells hb (nwone ι) (by rw [renL_length,Nat.add_assoc (ι.sh id) off]; exact c2)
      rw [Nat.add_assoc (ι.sh id) off] at this
      rw [this]
      rfl
     exact key.eff.to h
   · have hb:=ble_no hb
     obtain⟨hsm,h⟩:=ifK_ok h
     obtain⟨es,n,c1,h,_,hrow⟩:=rowK_ok h
     rcases ifK_two h with ⟨hq,h5⟩ | ⟨_,h⟩
     · simp only [Bool.and_eq_true] at hq
       obtain⟨a1,a2,a3⟩:=hq
       have a1:=beq_ok a1
       have a2:=beq_ok a2
       have a3:=ble_ok a3
       subst a1
       subst a2
       unfold growOn at h5
       rw [natF_eq,layK_eq,newObj_eq,newObj_eq] at h5
       refine (grown (.slice id 0 len cap) len cap [] (lay ls len c1) (fun ι nt a ha=>hsv ι nt a ha) hsm hb (fun B w0 ι w hcc=>?_)).to h5
       have hr:=hrow B w0 ι w hcc
       obtain⟨old,o1,o2⟩:=old_cells hr (off:=0) (len:=len*szOf P e) (by rw [Nat.zero_add]; exact Nat.mul_le_mul_right _ a3)
       refine⟨_,old,rfl,first_of o1 (fun j hj=>by have:=o2 j hj; rw [Nat.zero_add] at this; rw [<-this]; rfl),o1,fun C' h1 h2=>?_⟩
       refine cellsAt_lay (C:=C') (cellsAt_old hr a3 (fun i hi=>?_)) he (fun i hi=>rfl) (fun i hi=>by rw [Nat.zero_add]; exact h2 i hi)
       rw [Nat.zero_add,h1 i hi,<-o2 i hi,Nat.zero_add]
     · obtain⟨pre,h,hl,hpre⟩:=readElems_ok _ _ _ _ _ _ h
       unfold grow at h
       rw [natF_eq,layK_eq,newObj_eq,newObj_eq,List.length_append,hl] at h
       refine (grown (.slice id off len cap) len cap pre (lay (pre++ls) 0 .e) (fun ι nt a ha=>hsv ι nt a ha) hsm hb (fun B w0 ι w hcc=>?_)).to h
       obtain⟨p1,p2⟩:=hpre B w0 ι w hcc
       have hpl:pre.flatten.length=len*szOf P e:=by rw [even_length p1,hl]
       refine⟨_,renL ι pre.flatten,rfl,first_of (by rw [renL_length,hpl]) (fun j hj=>by rw [renL_get,<-p2 j (by omega),Nat.add_assoc]; rfl),by rw [renL_length,hpl],fun C' h1 h2=>?_⟩
       have:=cellsAt_lay (ι:=ι) (C:=C') (C':=C') (base:=0) (c:=.e) (cellsAt_nil ι C' 0 (szOf P e) .e) (even_append p1 he) (fun i hi=>rfl) (fun i hi=>?_)
       · rw [Nat.zero_add,List.length_append,hl] at this
         exact this
       · rw [Nat.zero_mul,Nat.zero_add,Nat.zero_add,List.flatten_append]
         rw [List.length_append,hl,Nat.add_mul] at hi
         by_cases hlt:i<len*szOf P e
         · rw [h1 i hlt,List.getElem?_append_left (by omega),renL_get]
         · have:=h2 (i-len*szOf P e) (by omega)
           rw [List.getElem?_append_right (by omega),hpl,<-this]
           congr 1
           omega
 | oslice id off len skip=>exact htail xv id off len skip ls hsv hxv hsrc hev h0
 | _=>cases h
end
end Go.Rex
namespace Go.Rex
open Go.RowKit
theorem tailK_eq (hp:Tr AO) (nx id f:Pz) (ep:Nat) (tip:Bool) (es need n0:Nat) (el:TypeId) (c c':Tr (List AV)) (k:AV->Tr AO->Pz->Rs) :
  tailK hp nx id f ep tip es need n0 el c c' k=k (.oslice nx 0 need 0) ((cutHp hp id f (if tip then ep else ep+1) es n0 el c).set nx (.seg f (if tip then ep else ep+1) true es need el c')) nx.succ:=by
 unfold tailK
 rw [natF_eq,natF_eq,Tr.setK_eq,Tr.setK_eq,newObj_eq]
 cases tip<;>rfl
def TailTree (hp:Tr AO) (id:Pz) (off len es:Nat) (ls:List (List AV)) (c':Tr (List AV)):Prop :=
 ∀B w0 ι w,Core B w0 ι hp w->∀(C':Array Value) (base:Nat),(∀i,i<len*es->C'[base+i]?=w.cell? ⟨ι.blk id,ι.sh id+(off+i),none⟩) ->
  (∀i,i<ls.length*es->C'[base+(len*es+i)]?=((ls.flatten)[i]?).map (ren ι))->cellsAt ι C' base es (len+ls.length) c'
section
variable {hp:Tr AO} {nx id f:Pz} {ep ep' es n len skip m:Nat} {tip s0:Bool} {el:TypeId} {c c':Tr (List AV)} {ls:List (List AV)}
theorem tail_place (hw:Wf hp nx) (ho:hp.get id=some (.seg f ep tip es n el c)) (hf:hp.get f=some (.fam ep s0)) (hep:(ep'=ep/\tip=true/\skip+len=n)∨ep'=ep+1) (hn0:skip+len<=n) (hgt:n<skip+(len+ls.length))
  (he:even es ls) (htree:TailTree hp id (skip*es) len es ls c') {B:Nat->Prop} {w0 w:World} {ι:En} (hc:Core B w0 ι hp w) (hfit:len+ls.length<=ι.kap id-skip) (hb:ι.blk nx=ι.blk id) (hs:ι.sh nx=ι.sh id+skip*es) (hk:ι.kap nx=ι.kap id-skip) :
  Core B w0 ι ((cutHp hp id f ep' es (skip+len) el c).set nx (.seg f ep' true es (len+ls.length) el c')) (putCells w (ι.blk id) (ι.sh id+(skip*es+len*es)) (renL ι ls.flatten))/\CanPut w (ι.blk id) (ι.sh id+(skip*es+len*es)) (ls.length*es):=by
 have hep2:ep'=ep∨ep'=ep+1:=hep.imp (·.1) (fun x=>x)
 have hlv:live hp f ep:=⟨_,hf⟩
 have hw1:=cut_wf (n0:=skip+len) hw ho hf hep2
 have hc1:=cut_core (n0:=skip+len) hw ho hf hep2 hn0 hc
 obtain⟨C,fz,g1,g2,g3,g4,g5⟩:=hc.obj _ _ ho hlv
 have hflen:(renL ι ls.flatten).length=ls.length*es:=by rw [renL_length,even_length he]
 have hkap:skip+(len+ls.length)<=ι.kap id:=by omega
 have hroom:ι.sh id+(skip*es+len*es)+ls.length*es<=C.size:=by
  have:=Nat.mul_le_mul_right es hkap
  rw [Nat.add_mul,Nat.add_mul] at this
  omega
 have hput:∀i,i<skip*es+len*es->(arrayPut C (ι.sh id+(skip*es+len*es)) (renL ι ls.flatten))[ι.sh id+i]?=C[ι.sh id+i]?:=fun i hi=>by
  rw [arrayPut_get _ _ _ _ (by rw [hflen]; exact hroom),if_neg (by omega)]
 have hblk1:∀i o,i≠id->(cutHp hp id f ep' es (skip+len) el c).get i=some o->own (cutHp hp id f ep' es (skip+len) el c) o->ι.blk i=ι.blk id->famOf o=some f:=by
  intro i o hi hg hown e
  have hgid:(cutHp hp id f ep' es (skip+len) el c).get id=some (.seg f ep' false es (skip+len) el c):=Tr.get_set_same _ _ _
  have hlid:live (cutHp hp id f ep' es (skip+len) el c) f ep':=by
   refine⟨false,?_⟩
   have hne:f≠id:=fun e=>by rw [e,ho] at hf; cases hf
   unfold cutHp
   rw [Tr.get_set_ne hne,Tr.get_set_same]
  obtain⟨g,e1,e2⟩:=hc1.sep i id o _ hi hg hgid hown hlid e
  cases e2
  exact e1
 have hrest:∀i f' e' tp' es' n' el' c'',i≠id->(cutHp hp id f ep' es (skip+len) el c).get i=some (.seg f' e' tp' es' n' el' c'')->live (cutHp hp id f ep' es (skip+len) el c) f' e'->f'=f->tp'=false/\(ι.blk i=ι.blk id->ι.sh i+n'*es'<=ι.sh id+(skip*es+len*es)):=by
  intro i f' e' tp' es' n' el' c'' hi hg hl hff
  obtain⟨r1,r2⟩:=cut_rest hw ho hf hep hc hi hg hl hff
  refine⟨r1,fun e=>?_⟩
  have:=r2 e (by omega)
  rw [Nat.add_mul] at this
  exact this
 refine⟨core_child hw1 hc1 (fun _=>?_) (fun i o hg hown=>?_) (putCells_below _ _ _ _ (hc.base _ _ ho hlv) hc.below) (fun k hk=>by rw [putCells_size]; exact hc.room k hk) (by rw [hb]; exact hc.base _ _ ho hlv) (fun i o hg hown e=>?_) (fun _ i f' e' tp' es' n' el' c'' hg hl=>⟨fun e=>?_,fun e _=>?_⟩) (fun i f' e' es' n' el' c'' hg hl=>⟨fun e=>?_,fun e _=>?_⟩),canPut_of g1 hroom g5⟩
 · refine⟨_,fz,by rw [hb]; exact putCells_block _ _ _ _ _ _ _ g1,?_,by rw [hk]; exact hfit,?_,by rw [arrayPut_size]; exact g5⟩
   · rw [arrayPut_size,hs,hk]
     have:ι.kap id*es=skip*es+(ι.kap id-skip)*es:=by rw [<-Nat.add_mul]; congr 1; omega
     omega
   · rw [hs]
     refine htree B w0 ι w hc _ _ (fun i hi=>?_) (fun i hi=>?_)
     · rw [Nat.add_assoc,hput _ (by omega),cell_of g1]
     · rw [arrayPut_get _ _ _ _ (by rw [hflen]; exact hroom),if_pos (by omega),renL_get]
       congr 2
       omega
 · by_cases hi:i=id
   · subst hi
     have:o=.seg f ep' false es (skip+len) el c:=by
      rcases cut_get hg with ⟨_,h⟩ | ⟨h,_⟩ | ⟨h,_⟩
      · exact h
      · exact absurd rfl h
      · exact absurd rfl h
     subst this
     intro _
     refine⟨_,fz,putCells_block _ _ _ _ _ _ _ g1,by rw [arrayPut_size]; exact g2,by omega,fun q hq=>?_,by rw [arrayPut_size]; exact g5⟩
     obtain⟨l,l1,l2,l3⟩:=g4 q (by omega)
     refine⟨l,l1,l2,fun r hr=>?_⟩
     have hm:=Nat.mul_le_mul_right es (Nat.succ_le_of_lt hq)
     rw [Nat.succ_mul,Nat.add_mul] at hm
     rw [hput _ (by omega)]
     exact l3 r hr
   · by_cases e:ι.blk i=ι.blk id
     · have hfo:=hblk1 i o hi hg hown e
       cases o with
       | seg f' e' tp' es' n' el' c'' =>
         cases hfo
         obtain⟨_,r2⟩:=hrest i _ _ _ _ _ _ _ hi hg hown rfl
         have r2:=r2 e
         intro _
         obtain⟨C2,fz2,k1,k2,k3,k4,k5⟩:=hc1.obj _ _ hg hown
         rw [e,g1] at k1
         cases k1
         refine⟨_,fz,by rw [e]; exact putCells_block _ _ _ _ _ _ _ g1,by rw [arrayPut_size]; exact k2,k3,fun q hq=>?_,by rw [arrayPut_size]; exact k5⟩
         obtain⟨l,l1,l2,l3⟩:=k4 q hq
         refine⟨l,l1,l2,fun r hr=>?_⟩
         have hm:=Nat.mul_le_mul_right es' (Nat.succ_le_of_lt hq)
         rw [Nat.succ_mul] at hm
         rw [arrayPut_get _ _ _ _ (by rw [hflen]; exact hroom),if_neg (by omega)]
         exact l3 r hr
       | _=>cases hfo
     · exact (hc1.obj _ _ hg).keep (fun x=>x) fun _=>putCells_ne _ _ _ _ _ e
 · rw [hb] at e
   by_cases hi:i=id
   · subst hi
     rcases cut_get hg with ⟨_,h⟩ | ⟨h,_⟩ | ⟨h,_⟩
     · rw [h]; rfl
     · exact absurd rfl h
     · exact absurd rfl h
   · exact hblk1 i o hi hg hown e
 · by_cases hi:i=id
   · subst hi
     rcases cut_get hg with ⟨_,h⟩ | ⟨h,_⟩ | ⟨h,_⟩
     · cases h; rfl
     · exact absurd rfl h
     · exact absurd rfl h
   · exact (hrest i _ _ _ _ _ _ _ hi hg hl e.symm).1
 · rw [hb] at e
   rw [hs]
   by_cases hi:i=id
   · subst hi
     rcases cut_get hg with ⟨_,h⟩ | ⟨h,_⟩ | ⟨h,_⟩
     · cases h
       rw [Nat.add_mul,Nat.add_mul]
       omega
     · exact absurd rfl h
     · exact absurd rfl h
   · have hfo:=hblk1 i _ hi hg hl e.symm
     have:=(hrest i _ _ _ _ _ _ _ hi hg hl (Option.some.inj hfo)).2 e.symm
     rw [Nat.add_mul]
     omega
 · by_cases hi:i=id
   · subst hi
     rcases cut_get hg with ⟨_,h⟩ | ⟨h,_⟩ | ⟨h,_⟩
     · cases h
     · exact absurd rfl h
     · exact absurd rfl h
   · exact absurd (hrest i _ _ _ _ _ _ _ hi hg hl e).1 (by decide)
 · rw [hb] at e
   by_cases hi:i=id
   · subst hi
     rcases cut_get hg with ⟨_,h⟩ | ⟨h,_⟩ | ⟨h,_⟩
     · cases h
     · exact absurd rfl h
     · exact absurd rfl h
   · have hfo:=hblk1 i _ hi hg hl e
     exact absurd (hrest i _ _ _ _ _ _ _ hi hg hl (Option.some.inj hfo)).1 (by decide)
theorem tail_new (hw:Wf hp nx) (ho:hp.get id=some (.seg f ep tip es n el c)) (hf:hp.get f=some (.fam ep s0)) (hep:(ep'=ep/\tip=true/\skip+len=n)∨ep'=ep+1) (hn0:skip+len<=n)
  {B:Nat->Prop} {w0 w:World} {ι:En} (hc:Core B w0 ι hp w) {C:Array Value} {cap:Nat} (hb:ι.blk nx=w.heap.size) (hs:ι.sh nx=0) (hk:ι.kap nx=cap) (hcap:m<=cap) (hC:cap*es<=C.size) (hcells:cellsAt ι C 0 es m c') :
  Core B w0 ι ((cutHp hp id f ep' es (skip+len) el c).set nx (.seg f ep' true es m el c')) (w.alloc (.cells C el (0,0))):=by
 have hep2:ep'=ep∨ep'=ep+1:=hep.imp (·.1) (fun x=>x)
 have hw1:=cut_wf (n0:=skip+len) hw ho hf hep2
 have hc1:=cut_core (n0:=skip+len) hw ho hf hep2 hn0 hc
 have hlt:=core_lt hc1
 have hroom:=hc.room
 refine core_child hw1 hc1 (fun _=>⟨C,(0,0),by rw [hb]; exact heap_alloc_new _ _,by rw [hs,hk]; omega,by rw [hk]; exact hcap,by rw [hs]; exact hcells,Or.inl rfl⟩) (fun i o hi ho'=>?_) (hc.below.alloc hc.room _) (fun k hk=>by have:=hc.room k hk; simp; omega) (by rw [hb]; exact fun h=>by have:=hc.room _ h; omega) (fun i o hi ho' e=>?_) (fun _ i f' e' tp' es' n' el' c'' hg hl=>⟨fun e=>?_,fun e _=>?_⟩) (fun i f' e' es' n' el' c'' hg hl=>⟨fun e=>?_,fun e _=>?_⟩)
 · exact (hc1.obj i o hi).keep (fun x=>x) fun _=>Below.heap_alloc _ _ _ (hlt i o hi ho')
 · have:=hlt i o hi ho'; rw [e,hb] at this; omega
 · by_cases hi:i=id
   · subst hi
     rcases cut_get hg with ⟨_,h⟩ | ⟨h,_⟩ | ⟨h,_⟩
     · cases h; rfl
     · exact absurd rfl h
     · exact absurd rfl h
   · exact (cut_rest hw ho hf hep hc hi hg hl e.symm).1
 · have:=hlt i _ hg hl; rw [<-e,hb] at this; omega
 · by_cases hi:i=id
   · subst hi
     rcases cut_get hg with ⟨_,h⟩ | ⟨h,_⟩ | ⟨h,_⟩
     · cases h
     · exact absurd rfl h
     · exact absurd rfl h
   · exact absurd (cut_rest hw ho hf hep hc hi hg hl e).1 (by decide)
 · have:=hlt i _ hg hl; rw [e,hb] at this; omega
theorem tail_wf (hw:Wf hp nx) (ho:hp.get id=some (.seg f ep tip es n el c)) (hf:hp.get f=some (.fam ep s0)) (hep:ep'=ep∨ep'=ep+1) {n0:Nat} {tp:Bool}:Wf ((cutHp hp id f ep' es n0 el c).set nx (.seg f ep' tp es m el c')) nx.succ:=by
 have hne:f≠id:=fun e=>by rw [e,ho] at hf; cases hf
 refine wf_child (s:=false) (cut_wf hw ho hf hep) ?_ (fun h=>by cases h)
 unfold cutHp
 rw [Tr.get_set_ne hne,Tr.get_set_same]
end
end Go.Rex
namespace Go.Rex
open Go.RowKit
section
variable {P:Program} {o:Oper} {tm:Tm} {hp:Tr AO} {nx:Pz} {k:AV->Tr AO->Pz->Rs} {call:CallT}
theorem tree_zero {id f:Pz} {ep es n len:Nat} {tip s0:Bool} {el:TypeId} {c:Tr (List AV)} {ls:List (List AV)} (ho:hp.get id=some (.seg f ep tip es n el c)) (hf:hp.get f=some (.fam ep s0)) (hl:len<=n) (he:even es ls):TailTree hp id (0*es) len es ls (lay ls len c):=by
 intro B w0 ι w hc C' base h1 h2
 obtain⟨C,fz,g1,g2,g3,g4,g5⟩:=hc.obj _ _ ho ⟨_,hf⟩
 have hrow:RowAt ι w id es n c:=⟨C,el,fz,g1,Nat.le_trans (Nat.add_le_add_left (Nat.mul_le_mul_right _ g3) _) g2,g4,g5⟩
 refine cellsAt_lay (C:=C') (cellsAt_old hrow hl (fun i hi=>?_)) he (fun i hi=>rfl) h2
 rw [h1 i hi]
 congr 2
 omega
theorem tree_copy {id:Pz} {off len es:Nat} {ls pre:List (List AV)} (hl:pre.length=len) (hpre:∀B w0 ι w,Core B w0 ι hp w->even es pre/\CellsAre ι w id off pre.flatten) (he:even es ls):TailTree hp id off len es ls (lay (pre++ls) 0 .e):=by
 intro B w0 ι w hc C' base h1 h2
 obtain⟨p1,p2⟩:=hpre B w0 ι w hc
 have hpl:pre.flatten.length=len*es:=by rw [even_length p1,hl]
 have:=cellsAt_lay (ι:=ι) (C:=C') (C':=C') (base:=base) (c:=.e) (cellsAt_nil ι C' base es .e) (even_append p1 he) (fun i hi=>rfl) (fun i hi=>?_)
 · rw [Nat.zero_add,List.length_append,hl] at this
   exact this
 · rw [Nat.zero_mul,Nat.zero_add,List.flatten_append]
   rw [List.length_append,hl,Nat.add_mul] at hi
   by_cases hlt:i<len*es
   · rw [h1 i hlt,List.getElem?_append_left (by omega),p2 i (by omega)]
   · have:=h2 (i-len*es) (by omega)
     rw [List.getElem?_append_right (by omega),hpl,<-this]
     congr 1
     omega
theorem append_tail {c:Call} {ts tx e:TypeId} {d:TypeDesc} {s x:Operand} {z:AV} (ho:o.op=.call c) (hc:c.callee=.builtin .append) (ht:c.argTypes.toList=[ts,tx]) (hx:c.args.toList=[s,x])
  (hts:P.underlying ts=some (.slice e)) (htx:P.underlying tx=some d) (hni:∀kd,d≠.int kd) (hz:zeroOf P e=some z) (hg:(Nat.ble (P.bytesOf e) 1000000&&(Nat.beq z.cells.length (szOf P e)&&Nat.blt 0 (szOf P e)))=true)
  (v:AV) (id:Pz) (off len skip:Nat) (ls:List (List AV)) (hsv:∀ι nt a,TmpOk ι nt tm a->a.eval s=ren ι (.oslice id off len skip)) (hxv:∀ι nt a,TmpOk ι nt tm a->a.eval x=ren ι v)
  (hsrc:∀B w0 ι w,Core B w0 ι hp w->SrcOk P (szOf P e) v ls ι w) (hev:evenK (szOf P e) ls=true) (h:appendK hp nx e (szOf P e) (.oslice id off len skip) ls k=.ok):OpTo P o tm hp nx k:=by
 obtain⟨i,zv,q1,q2,q3,q4⟩:=zeroOf_ok hz
 simp only [Bool.and_eq_true] at hg
 obtain⟨g1,g2,g3⟩:=hg
 have g1:=ble_ok g1
 have g2:=beq_ok g2
 have g3:=blt_ok g3
 have hbytes:P.bytesOf e=i.bytes:=by unfold Program.bytesOf; rw [q1]; rfl
 have hT:ApT P ts tx e i zv d:=⟨hts,htx,hni,q1,q2,by omega⟩
 have hzs:∀ι:En,zv.cells.size=szOf P e:=fun ι=>by rw [<-absV_ren 8 zv z q3 ι,ren_cells]; simp [renL_length,g2]
 have hrun:∀(a:Act) (w:World),(execOp a.eval o).run P w=((Builtin.append_ #[ts,tx] o.type #[a.eval s,a.eval x]).run P w).andThen fun v w'=>.ok (.value v) w':=fun a w=>call_two ho hc ht hx (fun _ _ _ _=>rfl)
 obtain⟨_,h⟩:=ifK_ok h
 obtain⟨he,hfl⟩:=evenK_ok _ hev
 have nwone:∀ι:En,∀v∈renL ι ls.flatten,oneV v=true:=fun ι=>renL_flat ι _ hfl
 simp only [natF_eq] at h
 obtain⟨ob,hob,h⟩:=getK_ok h
 cases ob with
 | seg f ep tip es n el c0 =>
   obtain⟨hq,h1⟩:=ifK_ok h
   simp only [Bool.and_eq_true] at hq
   obtain⟨hsm,a1,a2,a3,a4⟩:=hq
   have hel0:=beq_ok a4
   have a1:=beq_ok a1
   have a2:=beq_ok a2
   have a3:=ble_ok a3
   subst a1
   subst a2
   obtain⟨s0,hf,h2⟩:=liveK_ok h1
   rcases ifK_two h2 with ⟨hb,h3⟩ | ⟨hb,h3⟩
   · have hb:=ble_ok hb
     obtain⟨hp1,h4,hf1,_,hput⟩:=writeElems_ok _ _ _ _ _ _ h3
     have key:OWr P o tm hp nx (.oslice id (skip*szOf P e) (len+ls.length) skip) hp1:=by
      refine⟨hput.1 nx,fun B w0 ι nt a w hw ha hcc=>?_⟩
      obtain⟨c1,c2⟩:=hput.2 B w0 ι w nx hw hcc
      have hs:=hsrc B w0 ι w hcc
      obtain⟨C,fz,b1,b2,b3,b4,b5⟩:=hcc.obj _ _ hob ⟨_,hf⟩
      refine⟨_,_,.inl ?_,rfl,c1⟩
      rw [hrun,hsv ι nt a ha,hxv ι nt a ha]
      simp only [ren]
      have:=run_append_fit hT (ty:=o.type) (b:=ι.blk id) (o:=ι.sh id+skip*szOf P e) (len:=len) (cap:=ι.kap id-skip) hs.len hs.cells (by omega) (nwone ι) (by rw [renL_length,Nat.add_assoc (ι.sh id)]; exact c2)
      rw [Nat.add_assoc (ι.sh id)] at this
      rw [this]
      rfl
     exact key.eff.to h4
   · have hb:=ble_no hb
     have fin:∀c':Tr (List AV),TailTree hp id (skip*szOf P e) len (szOf P e) ls c'->tailK hp nx id f ep (tip&&Nat.beq (skip+len) n) (szOf P e) (len+ls.length) (skip+len) el c0 c' k=.ok->OpTo P o tm hp nx k:=by
      intro c' htree hk
      rw [tailK_eq] at hk
      unfold smallRow at hsm
      rw [Bool.and_eq_true] at hsm
      have hsm1:=ble_ok hsm.1
      generalize hep':(if (tip&&Nat.beq (skip+len) n)=true then ep else ep+1)=ep' at hk
      have hep:(ep'=ep/\tip=true/\skip+len=n)∨ep'=ep+1:=by
       cases ht:(tip&&Nat.beq (skip+len) n) with
       | true=>rw [ht] at hep'; rw [Bool.and_eq_true] at ht; exact .inl ⟨by rw [<-hep']; rfl,ht.1,beq_ok ht.2⟩
       | false=>rw [ht] at hep'; exact .inr (by rw [<-hep']; rfl)
      have hep2:ep'=ep∨ep'=ep+1:=hep.imp (·.1) (fun x=>x)
      refine Eff.to (v:=.oslice nx 0 (len+ls.length) 0) ⟨by rw [Pz.num_succ]; omega,fun hw=>tail_wf hw hob hf hep2,fun B w0 nt a w ι hs=>?_⟩ hk
      obtain⟨t1,c1⟩:=hs.2 ι (Agree.refl _ _)
      have hidlt:=hs.1.lt _ _ hob
      have hsr:=hsrc B w0 ι w c1
      obtain⟨C,fz,b1,b2,b3,b4,b5⟩:=c1.obj _ _ hob ⟨_,hf⟩
      by_cases hfit:len+ls.length<=ι.kap id-skip
      · have hp1:=(tail_place (nx:=nx) (ι:=ι.at nx (ι.blk id) (ι.sh id+skip*szOf P e) (ι.kap id-skip)) hs.1 hob hf hep a3 (by omega) he htree (hs.2 _ (agree_at ι nx _ _ _)).2
         (by simp [En.at,show id≠nx from fun e=>by rw [e] at hidlt; omega]; exact hfit) (by simp [En.at,show id≠nx from fun e=>by rw [e] at hidlt; omega]) (by simp [En.at,show id≠nx from fun e=>by rw [e] at hidlt; omega]) (by simp [En.at,show id≠nx from fun e=>by rw [e] at hidlt; omega]))
        obtain⟨_,hcan⟩:=hp1
        have eb:(ι.at nx (ι.blk id) (ι.sh id+skip*szOf P e) (ι.kap id-skip)).blk id=ι.blk id:=by simp [En.at,show id≠nx from fun e=>by rw [e] at hidlt; omega]
        have es':(ι.at nx (ι.blk id) (ι.sh id+skip*szOf P e) (ι.kap id-skip)).sh id=ι.sh id:=by simp [En.at,show id≠nx from fun e=>by rw [e] at hidlt; omega]
        rw [eb,es'] at hcan
        have hrunfit:=run_append_fit hT (ty:=o.type) (b:=ι.blk id) (o:=ι.sh id+skip*szOf P e) (len:=len) (cap:=ι.kap id-skip) hsr.len hsr.cells hfit (nwone ι) (by rw [renL_length,even_length he,Nat.add_assoc (ι.sh id)]; exact hcan)
        rw [Nat.add_assoc (ι.sh id) (skip*szOf P e) (len*szOf P e)] at hrunfit
        refine⟨_,.slice (some ⟨ι.blk id,ι.sh id+skip*szOf P e,none⟩) (len+ls.length) (ι.kap id-skip),putCells w (ι.blk id) (ι.sh id+(skip*szOf P e+len*szOf P e)) (renL ι ls.flatten),agree_at ι nx (ι.blk id) (ι.sh id+skip*szOf P e) (ι.kap id-skip),.inl ?_,fun ι' hι=>?_⟩
        · rw [hrun,hsv ι nt a t1,hxv ι nt a t1]
          simp only [ren]
          rw [hrunfit]
          rfl
        · obtain⟨ha,k1,k2,k3⟩:=agree_at' hι
          obtain⟨d1,d2,d3⟩:=ha id hidlt
          obtain⟨t2,c2⟩:=hs.2 ι' ha
          obtain⟨r1,_⟩:=tail_place (nx:=nx) hs.1 hob hf hep a3 (by omega) he htree c2 (by rw [d3]; exact hfit) (by rw [k1,d1]) (by rw [k2,d2]) (by rw [k3,d3])
          have esame:renL ι' ls.flatten=renL ι ls.flatten:=by
           have s2:=(hsrc B w0 ι' w c2).cells
           have s1:=hsr.cells
           rw [(hxv ι' nt a t2).symm.trans (hxv ι nt a t1)] at s2
           rw [s1] at s2
           have:=Result.ok.inj s2
           have h3:=congrArg Array.toList this.1
           simpa using h3.symm
          rw [d1,d2,esame] at r1
          refine⟨r1,?_⟩
          simp [ren,k1,k2,k3]
      · have hold:∃old:List Value,old.length=len*szOf P e/\∀j,j<len*szOf P e->w.cell? ⟨ι.blk id,ι.sh id+(skip*szOf P e+j),none⟩=old[j]?:=by
         have hrow:RowAt ι w id (szOf P e) n c0:=⟨C,el,fz,b1,Nat.le_trans (Nat.add_le_add_left (Nat.mul_le_mul_right _ b3) _) b2,b4,b5⟩
         refine old_cells hrow ?_
         rw [<-Nat.add_mul]
         exact Nat.mul_le_mul_right _ a3
        obtain⟨old,o1,o2⟩:=hold
        have hsd:=hsrc B w0 ι w.drew (core_drew c1)
        obtain⟨cc,rest,r1,r2,r3⟩:=run_append_grow hT (ty:=o.type) (x:=ren ι v) (base:=some ⟨ι.blk id,ι.sh id+skip*szOf P e,none⟩) (len:=len) (cap:=ι.kap id-skip) hsr.len hsd.cells
         (first_of o1 (fun j hj=>by rw [Nat.add_assoc]; exact o2 j hj)) (by omega) hsm1
        refine⟨_,.slice (some ⟨w.heap.size,0,none⟩) (len+ls.length) cc,w.drew.alloc (.cells (old++renL ι ls.flatten++rest).toArray e (0,0)),agree_at ι nx w.heap.size 0 cc,.inl ?_,fun ι' hι=>?_⟩
        · rw [hrun,hsv ι nt a t1,hxv ι nt a t1]
          simp only [ren]
          rw [r2]
          rfl
        · obtain⟨ha,k1,k2,k3⟩:=agree_at' hι
          obtain⟨d1,d2,d3⟩:=ha id hidlt
          obtain⟨t2,c2⟩:=hs.2 ι' ha
          have esame:renL ι' ls.flatten=renL ι ls.flatten:=by
           have s2:=(hsrc B w0 ι' w c2).cells
           have s1:=hsr.cells
           rw [(hxv ι' nt a t2).symm.trans (hxv ι nt a t1)] at s2
           rw [s1] at s2
           have:=Result.ok.inj s2
           have h3:=congrArg Array.toList this.1
           simpa using h3.symm
          have hel:el=e:=hel0
          subst hel
          refine⟨tail_new (m:=len+ls.length) hs.1 hob hf hep a3 (core_drew c2) k1 k2 k3 r1 ?_ (htree B w0 ι' w c2 _ 0 (fun i hi=>?_) (fun i hi=>?_)),by simp [ren,k1,k2,k3]⟩
          · rw [List.size_toArray,List.length_append,List.length_append,o1,renL_length,even_length he,r3,hzs ι,<-Nat.add_mul,<-Nat.add_mul]
            exact Nat.le_of_eq (by congr 1; omega)
          · rw [Nat.zero_add,List.getElem?_toArray,List.append_assoc,List.getElem?_append_left (by omega),<-o2 i hi,d1,d2]
          · rw [Nat.zero_add,List.getElem?_toArray,List.append_assoc,List.getElem?_append_right (by omega),o1,Nat.add_sub_cancel_left,List.getElem?_append_left (by rw [renL_length,even_length he]; exact hi),<-esame,renL_get]
     rcases ifK_two h3 with ⟨hs0,h4⟩ | ⟨_,h4⟩
     · have hs0:=beq_ok hs0
       subst hs0
       rw [layK_eq] at h4
       exact fin _ (tree_zero hob hf (by omega) he) h4
     · obtain⟨pre,h5,hl,hpre⟩:=readElems_ok _ _ _ _ _ _ h4
       rw [layK_eq] at h5
       exact fin _ (tree_copy hl hpre he) h5
 | _=>cases h
end
end Go.Rex
namespace Go.Rex
open Go.RowKit
section
variable {hp:Tr AO} {id:Pz} {x y:AO}
theorem swap_wf {nx:Pz} (hw:Wf hp nx) (ho:hp.get id=some x) (hx1:famOf x=none) (hx2:∀e s,x≠.fam e s) (hy1:famOf y=none) (hy2:∀e s,y≠.fam e s):Wf (hp.set id y) nx:=by
 refine⟨?_,?_,?_,?_⟩
 · intro i o h
   rcases get_set_cases h with ⟨hi,_⟩ | ⟨_,h⟩
   · exact hi▸hw.lt _ _ ho
   · exact hw.lt _ _ h
 · intro i f e tp es n el c h
   rcases get_set_cases h with ⟨_,h⟩ | ⟨_,h⟩
   · rw [h] at hy1; cases hy1
   · exact hw.fam _ _ _ _ _ _ _ _ h
 · intro i f e tp es n el c e' s h h'
   rcases get_set_cases h with ⟨_,h⟩ | ⟨_,h⟩
   · rw [h] at hy1; cases hy1
   · rcases get_set_cases h' with ⟨_,h'⟩ | ⟨_,h'⟩
     · exact absurd h' (hy2 _ _)
     · exact hw.ep _ _ _ _ _ _ _ _ _ _ h h'
 · intro f e i i' tp es n el c tp' es' n' el' c' h h1 h2
   rcases get_set_cases h with ⟨_,h⟩ | ⟨_,h⟩
   · exact absurd h (hy2 _ _)
   · rcases get_set_cases h1 with ⟨_,h1⟩ | ⟨_,h1⟩
     · rw [h1] at hy1; cases hy1
     · rcases get_set_cases h2 with ⟨_,h2⟩ | ⟨_,h2⟩
       · rw [h2] at hy1; cases hy1
       · exact hw.solo _ _ _ _ _ _ _ _ _ _ _ _ _ _ h h1 h2
theorem own_plain (hx1:famOf x=none) (hx2:∀e s,x≠.fam e s) (hp:Tr AO):own hp x:=by
 cases x with
 | seg=>cases hx1
 | fam e s=>exact absurd rfl (hx2 e s)
 | _=>trivial
theorem swap_core {B:Nat->Prop} {w0 w w':World} {ι:En} (ho:hp.get id=some x) (hx1:famOf x=none) (hx2:∀e s,x≠.fam e s) (hy1:famOf y=none) (hy2:∀e s,y≠.fam e s) (hc:Core B w0 ι hp w) (hbelow:Kept B w0 w') (hroom:∀k,B k->k<w'.heap.size)
  (hother:∀b,b≠ι.blk id->w'.heap[b]?=w.heap[b]?) (hob:ObjOk ι (hp.set id y) w' id y):Core B w0 ι (hp.set id y) w':=by
 have hown:∀o,own (hp.set id y) o->own hp o:=by
  intro o h
  cases o with
  | seg f e tp es n el c =>
    obtain⟨s,hs⟩:=h
    rcases get_set_cases hs with ⟨_,h'⟩ | ⟨_,h'⟩
    · exact absurd h' (hy2 e s)
    · exact⟨s,h'⟩
  | _=>exact h
 have hxo:=own_plain hx1 hx2 hp
 have hne:∀i o,i≠id->hp.get i=some o->own hp o->ι.blk i≠ι.blk id:=by
  intro i o hi h ho' e
  obtain⟨f,_,h2⟩:=hc.sep i id o x hi h ho ho' hxo e
  rw [hx1] at h2; cases h2
 refine⟨hbelow,hroom,?_,?_,?_,?_⟩
 · intro i o h
   rcases get_set_cases h with ⟨hi,rfl⟩ | ⟨hi,h⟩
   · rw [hi]; exact hob
   · exact (hc.obj _ _ h).keep (hown o) fun h2=>hother _ (hne i o hi h (hown o h2))
 · intro i o h h2
   rcases get_set_cases h with ⟨hi,_⟩ | ⟨hi,h⟩
   · rw [hi]; exact hc.base _ _ ho hxo
   · exact hc.base _ _ h (hown o h2)
 · intro i i' o o' hii h h' h2 h2' e
   rcases get_set_cases h with ⟨hi,_⟩ | ⟨hi,h⟩
   · rcases get_set_cases h' with ⟨hi',_⟩ | ⟨hi',h'⟩
     · exact absurd (hi.trans hi'.symm) hii
     · rw [hi] at e; exact absurd e.symm (hne i' o' hi' h' (hown o' h2'))
   · rcases get_set_cases h' with ⟨hi',_⟩ | ⟨hi',h'⟩
     · rw [hi'] at e; exact absurd e (hne i o hi h (hown o h2))
     · exact hc.sep _ _ _ _ hii h h' (hown o h2) (hown o' h2') e
 · intro i i' f e es n el c f' e' tp' es' n' el' c' hii h h' hl hl'
   rcases get_set_cases h with ⟨_,h⟩ | ⟨_,h⟩
   · rw [h] at hy1; cases hy1
   · rcases get_set_cases h' with ⟨_,h'⟩ | ⟨_,h'⟩
     · rw [h'] at hy1; cases hy1
     · exact hc.tip _ _ _ _ _ _ _ _ _ _ _ _ _ _ _ hii h h' (hown (.seg f e true es n el c) hl) (hown (.seg f' e' tp' es' n' el' c') hl')
end
end Go.Rex
namespace Go.Rex
open Go.RowKit
section
variable {P:Program} {call:CallT} {r:Option Nat}
def AfterS (B:Nat->Prop) (w0:World) (nt:Nat) (ι:En) (nx:Pz) (K:Tm->Tr AO->Pz->Rs) (next:Act->World->Prop):Prop :=
 ∀tm' hp' nx' ι2 a' w',K tm' hp' nx'=.ok->nx.num<=nx'.num->Agree nx ι ι2->Sat B w0 nt tm' hp' nx' ι2 a' w'->next a' w'
theorem AfterS.later {B:Nat->Prop} {w0:World} {nt:Nat} {ι ι2:En} {nx nx':Pz} {K:Tm->Tr AO->Pz->Rs} {next:Act->World->Prop} (h:AfterS B w0 nt ι nx K next) (hle:nx.num<=nx'.num) (ha:Agree nx ι ι2):AfterS B w0 nt ι2 nx' K next :=
 fun tm' hp' nx'' ι3 a' w' hk hle' ha' hs=>h tm' hp' nx'' ι3 a' w' hk (Nat.le_trans hle hle') (ha.trans ha' hle) hs
theorem getD_set (xs:Array Value) (i j:Nat) (v d:Value) (h:i<xs.size):(xs.setIfInBounds i v).getD j d=if j=i then v else xs.getD j d:=by
 simp only [Array.getD_eq_getD_getElem?,Array.getElem?_setIfInBounds]
 by_cases hj:i=j
 · subst hj; simp [h]
 · rw [if_neg hj,if_neg (fun e=>hj e.symm)]
theorem tmpOk_put {ι:En} {nt:Nat} {tm:Tm} {a:Act} {t:Nat} {v:AV} {cv:Value} (h:TmpOk ι nt tm a) (ht:t<nt) (hv:cv=ren ι v):TmpOk ι nt (tm.put t v) (a.put (some t) cv):=by
 refine⟨by simp [Act.put,h.size],by rw [Tm.put_ml]; exact h.defers,fun j=>?_⟩
 simp only [Act.put]
 rw [getD_set _ _ _ _ _ (by rw [h.size]; exact ht)]
 by_cases hj:j=t
 · subst hj; rw [if_pos rfl,Tm.at_put_same,hv]
 · rw [if_neg hj,Tm.at_put_ne hj]; exact h.val j
theorem boolEq_eq (a b:Bool):boolEq a b=(a==b):=by cases a<;>cases b<;>rfl
def OpsOk (P:Program) (call:CallT):Prop:=∀o tm hp nx k,(opB P o).run call tm hp nx k=.ok->OpTo P o tm hp nx k
theorem put_to {o:Oper} {b:OB} {nt:Nat} {tm:Tm} {hp:Tr AO} {nx:Pz} {K:Tm->Tr AO->Pz->Rs} (hb:∀k,b.run call tm hp nx k=.ok->OpTo P o tm hp nx k) (h:(putB nt o.dst b).run call tm hp nx K=.ok)
  {B:Nat->Prop} {w0 w:World} {ι:En} {a:Act} (hs:Sat B w0 nt tm hp nx ι a w) {next:Act->World->Prop} (hn:AfterS B w0 nt ι nx K next):Gives P (execOp a.eval o) w (fun cv w'=>next (a.put o.dst cv) w'):=by
 unfold putB at h
 cases hd:o.dst with
 | none =>
   rw [hd] at h
   refine hb _ h B w0 nt a w ι hs _ (fun v hp' nx' ι2 cv w' hk hw hle ha hc=>?_)
   refine hn tm hp' nx' ι2 a w' hk hle ha ⟨hw,fun ι' hι=>⟨?_,(hc ι' hι).1⟩⟩
   exact (hs.2 ι' (ha.trans hι hle)).1
 | some t =>
   rw [hd] at h
   simp only at h
   cases hlt:Nat.blt t nt with
   | false=>rw [hlt] at h; cases h
   | true =>
     rw [hlt] at h
     refine hb _ h B w0 nt a w ι hs _ (fun v hp' nx' ι2 cv w' hk hw hle ha hc=>?_)
     have hk:=(setS_eq t tm v fun tm=>K tm hp' nx').symm.trans hk
     refine hn _ hp' nx' ι2 _ w' hk hle ha ⟨hw,fun ι' hι=>?_⟩
     obtain⟨c1,c2⟩:=hc ι' hι
     exact⟨tmpOk_put (hs.2 ι' (ha.trans hι hle)).1 (blt_ok hlt) c2,c1⟩
theorem skip_to {o:Oper} {nt:Nat} {tm:Tm} {hp:Tr AO} {nx:Pz} {K:Tm->Tr AO->Pz->Rs} (h:(putB nt o.dst (pureB fun _ k=>k undefA)).run call tm hp nx K=.ok)
  {B:Nat->Prop} {w0 w:World} {ι:En} {a:Act} (hs:Sat B w0 nt tm hp nx ι a w) {next:Act->World->Prop} (hn:AfterS B w0 nt ι nx K next):next (a.put o.dst undef) w:=by
 unfold putB at h
 cases hd:o.dst with
 | none=>rw [hd] at h; exact hn tm hp nx ι a w h (Nat.le_refl _) (Agree.refl _ _) hs
 | some t =>
   rw [hd] at h
   simp only at h
   cases hlt:Nat.blt t nt with
   | false=>rw [hlt] at h; cases h
   | true =>
     rw [hlt] at h
     have h:(setS t).run tm undefA (fun tm=>K tm hp nx)=.ok:=h
     rw [setS_eq] at h
     exact hn _ hp nx ι _ w h (Nat.le_refl _) (Agree.refl _ _) ⟨hs.1,fun ι' hι=>⟨tmpOk_put (hs.2 ι' hι).1 (blt_ok hlt) (ren_undef ι').symm,(hs.2 ι' hι).2⟩⟩
theorem yielded_of {ops:Array Oper} {nt j d:Nat} {tm:Tm} {a:Act} {ι:En} (hd:yielded? ops nt j=some d) (ha:TmpOk ι nt tm a) :
  yielded ops a.tmps j=match tm.at d with | .bool b=>some b | _=>none:=by
 unfold yielded? at hd
 cases ho:(ops[j]?).bind (·.dst) with
 | none=>rw [ho] at hd; cases hd
 | some d' =>
   rw [ho] at hd
   simp only at hd
   split at hd
   · cases hd
     rename_i hlt
     have hlt:=blt_ok hlt
     unfold yielded
     rw [ho]
     have hv:=ha.val d
     have hin:a.tmps[d]?=some (a.tmps.getD d undef):=by
      rw [Array.getElem?_eq_getElem (by rw [ha.size]; exact hlt)]
      simp [Array.getD,ha.size,hlt]
     simp only [Option.bind_some,hin,hv]
     cases tm.at d<;>simp [ren]
   · cases hd
theorem step_to (hops:OpsOk P call) {ops:Array Oper} {i:Nat} {o:Oper} {nt:Nat} {tm:Tm} {hp:Tr AO} {nx:Pz} {K:Tm->Tr AO->Pz->Rs} (hi:ops[i]?=some o) (h:(stepB P nt ops o).run call tm hp nx K=.ok)
  {B:Nat->Prop} {w0 w:World} {ι:En} {a:Act} (hs:Sat B w0 nt tm hp nx ι a w) {rest:List Nat} {Q:Exit->Act->World->Prop} (hn:AfterS B w0 nt ι nx K (wpOpsIn (fw r) 0 P ops Q rest)):wpOpsIn (fw r) 0 P ops Q (i::rest) a w:=by
 unfold wpOpsIn
 rw [hi]
 simp only
 unfold stepB at h
 cases hg:o.guard with
 | none =>
   rw [hg] at h
   rw [if_pos (by simp [Region.wanted,hg])]
   exact (put_to (fun k hk=>hops o tm hp nx k hk) h hs hn).wp fun _ _ h=>h
 | some g =>
   obtain⟨j,want⟩:=g
   rw [hg] at h
   simp only at h
   cases hd:yielded? ops nt j with
   | none=>rw [hd] at h; cases h
   | some d =>
     rw [hd] at h
     have h:(getS d).run tm (fun v=>selBz v ((putB nt o.dst (pureB fun _ k=>k undefA)).run call tm hp nx K) fun b =>
      ifK (boolEq b want) ((putB nt o.dst (opB P o)).run call tm hp nx K) ((putB nt o.dst (pureB fun _ k=>k undefA)).run call tm hp nx K))=.ok:=h
     rw [getS_eq] at h
     have hy:=yielded_of hd (hs.2 ι (Agree.refl _ _)).1
     have no:yielded ops a.tmps j≠some want->(putB nt o.dst (pureB fun _ k=>k undefA)).run call tm hp nx K=.ok->(if Region.wanted o (yielded ops a.tmps)=true then o.wpIn (fw r) 0 P a w (wpOpsIn (fw r) 0 P ops Q rest) Q else (∀f,o.about P w a.eval=some f->(fw r).fn f)/\wpOpsIn (fw r) 0 P ops Q rest (a.put o.dst undef) w):=by
      intro hne hp'
      rw [if_neg (by simp [Region.wanted,hg]; exact hne)]
      exact⟨fun _ _=>trivial,skip_to hp' hs hn⟩
     cases hv:tm.at d with
     | bool b =>
       rw [hv] at h hy
       rcases ifK_two h with ⟨hb,h⟩ | ⟨hb,h⟩
       · have hb:b=want:=by rw [boolEq_eq] at hb; simpa using hb
         rw [if_pos (by simp [Region.wanted,hg,hy,hb])]
         exact (put_to (fun k hk=>hops o tm hp nx k hk) h hs hn).wp fun _ _ h=>h
       · have hb:b≠want:=by rw [boolEq_eq] at hb; simpa using hb
         exact no (by rw [hy]; simp [hb]) h
     | _=>rw [hv] at h hy; exact no (by rw [hy]; simp) h
theorem region_to (hops:OpsOk P call) {ops:Array Oper} {nt:Nat} {Q:Exit->Act->World->Prop}:∀(l:List Oper) (i:Nat) (tm:Tm) (hp:Tr AO) (nx:Pz) (K:Tm->Tr AO->Pz->Rs),ops.toList.drop i=l->(regionB P nt ops l).run call tm hp nx K=.ok ->
  ∀{B:Nat->Prop} {w0 w:World} {ι:En} {a:Act},Sat B w0 nt tm hp nx ι a w->AfterS B w0 nt ι nx K (Q .normal)->wpOpsIn (fw r) 0 P ops Q (List.range' i l.length) a w
 | [],i,tm,hp,nx,K,hl,h,B,w0,w,ι,a,hs,hn=>hn tm hp nx ι a w h (Nat.le_refl _) (Agree.refl _ _) hs
 | o::l,i,tm,hp,nx,K,hl,h,B,w0,w,ι,a,hs,hn=>by
   have hi:ops[i]?=some o:=by
    have:=congrArg (·[0]?) hl
    simpa using this
   have hl':ops.toList.drop (i+1)=l:=by
    have:=congrArg (List.drop 1) hl
    simpa using this
   rw [List.length_cons,List.range'_succ]
   refine step_to hops hi (K:=fun tm hp nx=>(regionB P nt ops l).run call tm hp nx K) h hs (fun tm' hp' nx' ι2 a' w' hk hle ha hs'=>?_)
   exact region_to hops l (i+1) tm' hp' nx' K hl' hk hs' (hn.later hle ha)
end
end Go.Rex
namespace Go.Rex
open Go.RowKit
def exOf:Ex->Exit
 | .nrm=>.normal
 | .ext id=>.exit id
 | .ret=>.ret
section
variable {P:Program} {call:CallT} {r:Option Nat}
theorem stepR_scope {b:Frame} {a:Act} {k:List Item} {cs:List Frame} {w:World} {c:Code}:step P (lone (b.atR a (.code (.scope c)::k)) cs w)=.next (lone (b.atR a (.code c::.inScope c::k)) cs w) :=
 step_lone_go (by simp [stepG,stepG.exec,Frame.atR])
theorem stepR_inScope {b:Frame} {a:Act} {k:List Item} {cs:List Frame} {w:World} {c:Code}:step P (lone (b.atR a (.inScope c::k)) cs w)=.next (lone (b.atR a k) cs w) :=
 step_lone_go (by simp [stepG,stepG.exec,Frame.atR])
theorem wpIn_scope_straight {F:Fence} {n:Nat} {c:Code} {Q:Exit->Act->World->Prop} {a:Act} {w:World} (h:c.wpIn F n P (Exit.noGoto Q) a w):(Code.scope c).wpIn F n P Q a w:=by
 intro b k cs hro hb hr
 obtain⟨e,a₁,w₁,hq,harr⟩:=h b (.inScope c::k) cs hro hb hr
 have h0:StepsIn (Machine.fenced P F) P (lone (b.atR a (.code (.scope c)::k)) cs w) (lone (b.atR a (.code c::.inScope c::k)) cs w):=.one (fenced_calm hb hr rfl) stepR_scope
 cases e with
 | normal=>exact⟨.normal,a₁,w₁,hq,.of_steps h0 (StepsIn.trans harr (.one (fenced_calm hb hr rfl) stepR_inScope))⟩
 | exit id=>exact⟨.exit id,a₁,w₁,hq,.of_steps h0 ⟨fun k' hk=>harr.1 k' (by simp [exitTo,hk]),fun hs hk=>harr.2 hs (by simp [exitTo,hk])⟩⟩
 | goto l=>exact hq.elim
 | ret=>exact⟨_,a₁,w₁,hq,.of_steps h0 harr⟩
 | panic ch=>exact⟨_,a₁,w₁,hq,.of_steps h0 harr⟩
 | outgrown=>exact⟨_,a₁,w₁,hq,.of_steps h0 harr⟩
def AfterX (B:Nat->Prop) (w0:World) (nt:Nat) (ι:En) (nx:Pz) (K:Ex->Tm->Tr AO->Pz->Rs) (Q:Exit->Act->World->Prop):Prop :=
 ∀e tm' hp' nx' ι2 a' w',K e tm' hp' nx'=.ok->nx.num<=nx'.num->Agree nx ι ι2->Sat B w0 nt tm' hp' nx' ι2 a' w'->Q (exOf e) a' w'
theorem AfterX.later {B:Nat->Prop} {w0:World} {nt:Nat} {ι ι2:En} {nx nx':Pz} {K:Ex->Tm->Tr AO->Pz->Rs} {Q:Exit->Act->World->Prop} (h:AfterX B w0 nt ι nx K Q) (hle:nx.num<=nx'.num) (ha:Agree nx ι ι2):AfterX B w0 nt ι2 nx' K Q :=
 fun e tm' hp' nx'' ι3 a' w' hk hle' ha' hs=>h e tm' hp' nx'' ι3 a' w' hk (Nat.le_trans hle hle') (ha.trans ha' hle) hs
def DrawOk (P:Program) (call:CallT) (nt:Nat):Prop:=∀id ops plan tm hp nx K,planGood P ops plan=true->(drawB P nt ops plan).run call tm hp nx K=.ok ->
 ∀r B w0 w ι a,Sat B w0 nt tm hp nx ι a w->∀Q,AfterS B w0 nt ι nx K (Q .normal)->(Code.region id ops true).wpIn (fw r) 0 P Q a w
def RangeOk (P:Program) (call:CallT):Prop:=∀fid nt g ps x y tm hp nx K,rangeFuncB P fid nt g ps x y call tm hp nx K=.ok->noRF x=true->noRF y=true ->
 ∀B w0 w ι a,Sat B w0 nt tm hp nx ι a w->∀Q,AfterX B w0 nt ι nx K Q->(Code.rangeFunc g ps x y).wpIn (fw none) 0 P Q a w
theorem code_to (hops:OpsOk P call) {nt:Nat} (hdraw:DrawOk P call nt) (hrange:RangeOk P call) {fid:Nat} {pl:Nat->List Ph}:∀(c:Code),plansOk P pl c=true->(r=none∨noRF c=true)->∀(fu:Nat) (tm:Tm) (hp:Tr AO) (nx:Pz) (K:Ex->Tm->Tr AO->Pz->Rs),(codeB P fid nt pl c).run fu call tm hp nx K=.ok ->
  ∀{B:Nat->Prop} {w0 w:World} {ι:En} {a:Act},Sat B w0 nt tm hp nx ι a w->∀{Q:Exit->Act->World->Prop},AfterX B w0 nt ι nx K Q->c.wpIn (fw r) 0 P Q a w:=by
 intro c
 induction c with
 | skip=>intro hpl hrf fu tm hp nx K h B w0 w ι a hs Q hn; exact wpIn_skip (hn .nrm tm hp nx ι a w h (Nat.le_refl _) (Agree.refl _ _) hs)
 | region id ops draw =>
   intro hpl hrf fu tm hp nx K h B w0 w ι a hs Q hn
   cases draw with
   | false =>
     refine wpIn_region ?_
     have h:(regionB P nt ops ops.toList).run call tm hp nx (fun tm hp nx=>K .nrm tm hp nx)=.ok:=h
     have:=region_to (r:=r) hops (Q:=Q) ops.toList 0 tm hp nx _ rfl h hs (fun tm' hp' nx' ι2 a' w' hk hle ha hs'=>hn .nrm tm' hp' nx' ι2 a' w' hk hle ha hs')
     rw [List.range_eq_range',<-Array.length_toList]
     exact this
   | true=>exact hdraw id ops (pl id) tm hp nx _ hpl h r B w0 w ι a hs Q (fun tm' hp' nx' ι2 a' w' hk hle ha hs'=>hn .nrm tm' hp' nx' ι2 a' w' hk hle ha hs')
 | seq x y ihx ihy =>
   intro hpl hrf fu tm hp nx K h B w0 w ι a hs Q hn
   refine wpIn_seq (ihx (by simp only [plansOk,Bool.and_eq_true] at hpl; exact hpl.1) (hrf.imp_right fun h=>by simp only [noRF,Bool.and_eq_true] at h; exact h.1) fu tm hp nx _ h hs (fun e tm' hp' nx' ι2 a' w' hk hle ha hs'=>?_))
   cases e with
   | nrm=>exact ihy (by simp only [plansOk,Bool.and_eq_true] at hpl; exact hpl.2) (hrf.imp_right fun h=>by simp only [noRF,Bool.and_eq_true] at h; exact h.2) fu tm' hp' nx' K hk hs' (hn.later hle ha)
   | ext id=>exact hn (.ext id) tm' hp' nx' ι2 a' w' hk hle ha hs'
   | ret=>exact hn .ret tm' hp' nx' ι2 a' w' hk hle ha hs'
 | cond c x y ihx ihy =>
   intro hpl hrf fu tm hp nx K h B w0 w ι a hs Q hn
   obtain⟨v,h,hv⟩:=evB_ok h
   obtain⟨b,rfl,g⟩:=asBool_ok h
   have hc:a.eval c=.bool b:=by rw [hv ι nt a (hs.2 ι (Agree.refl _ _)).1]; simp [ren]
   cases b with
   | true=>exact wpIn_cond_true hc (ihx (by simp only [plansOk,Bool.and_eq_true] at hpl; exact hpl.1) (hrf.imp_right fun h=>by simp only [noRF,Bool.and_eq_true] at h; exact h.1) fu tm hp nx K g hs hn)
   | false=>exact wpIn_cond_false hc (ihy (by simp only [plansOk,Bool.and_eq_true] at hpl; exact hpl.2) (hrf.imp_right fun h=>by simp only [noRF,Bool.and_eq_true] at h; exact h.2) fu tm hp nx K g hs hn)
 | block id x ih =>
   intro hpl hrf fu tm hp nx K h B w0 w ι a hs Q hn
   refine wpIn_block (ih hpl hrf fu tm hp nx _ h hs (fun e tm' hp' nx' ι2 a' w' hk hle ha hs'=>?_))
   cases e with
   | nrm=>exact hn .nrm tm' hp' nx' ι2 a' w' hk hle ha hs'
   | ext j =>
     show if j=id then Q .normal a' w' else Q (.exit j) a' w'
     rcases ifK_two hk with ⟨hj,hk⟩ | ⟨hj,hk⟩
     · rw [if_pos (beq_ok hj)]; exact hn .nrm tm' hp' nx' ι2 a' w' hk hle ha hs'
     · rw [if_neg (beq_no hj)]; exact hn (.ext j) tm' hp' nx' ι2 a' w' hk hle ha hs'
   | ret=>exact hn .ret tm' hp' nx' ι2 a' w' hk hle ha hs'
 | loop x ih =>
   intro hpl hrf fu tm hp nx K h B w0 w ι a hs Q hn
   have key:∀(m:Nat) (tm:Tm) (hp:Tr AO) (nx:Pz) (w:World) (ι:En) (a:Act),(Nat.rec (motive:=fun _=>Tm->Tr AO->Pz->Rs) (fun _ _ _=>Rs.bad 180)
    (fun _ ih tm hp nx=>(codeB P fid nt pl x).run fu call tm hp nx fun e tm hp nx=>Ex.rec (motive:=fun _=>Rs) (ih tm hp nx) (fun j=>K (.ext j) tm hp nx) (K .ret tm hp nx) e) m) tm hp nx=.ok->Sat B w0 nt tm hp nx ι a w->AfterX B w0 nt ι nx K Q->Code.roundsIn (fw r) 0 P x Q m a w:=by
    intro m
    induction m with
    | zero=>intro tm hp nx w ι a h; cases h
    | succ m ihm =>
      intro tm hp nx w ι a h hs hn
      rw [roundsIn_succ]
      refine ih hpl hrf fu tm hp nx _ h hs (fun e tm' hp' nx' ι2 a' w' hk hle ha hs'=>?_)
      cases e with
      | nrm=>exact ihm tm' hp' nx' w' ι2 a' hk hs' (hn.later hle ha)
      | ext j=>exact hn (.ext j) tm' hp' nx' ι2 a' w' hk hle ha hs'
      | ret=>exact hn .ret tm' hp' nx' ι2 a' w' hk hle ha hs'
   exact wpIn_loop_rounds fu (key fu tm hp nx w ι a h hs hn)
 | rangeFunc f ps x y _ _ =>
   intro hpl hrf fu tm hp nx K h B w0 w ι a hs Q hn
   rcases hrf with rfl | hrf
   · simp only [plansOk,Bool.and_eq_true] at hpl
     exact hrange fid nt f ps x y tm hp nx K h hpl.1 hpl.2 B w0 w ι a hs Q hn
   · cases hrf
 | exit id=>intro hpl hrf fu tm hp nx K h B w0 w ι a hs Q hn; exact wpIn_exit (hn (.ext id) tm hp nx ι a w h (Nat.le_refl _) (Agree.refl _ _) hs)
 | scope x ih =>
   intro hpl hrf fu tm hp nx K h B w0 w ι a hs Q hn
   refine wpIn_scope_straight (ih hpl hrf fu tm hp nx K h hs (fun e tm' hp' nx' ι2 a' w' hk hle ha hs'=>?_))
   have:=hn e tm' hp' nx' ι2 a' w' hk hle ha hs'
   cases e<;>exact this
 | label l=>intro hpl hrf fu tm hp nx K h B w0 w ι a hs Q hn; exact wpIn_label (hn .nrm tm hp nx ι a w h (Nat.le_refl _) (Agree.refl _ _) hs)
 | goto l=>intro hpl hrf fu tm hp nx K h; cases h
 | ret=>intro hpl hrf fu tm hp nx K h B w0 w ι a hs Q hn; exact wpIn_ret (hn .ret tm hp nx ι a w h (Nat.le_refl _) (Agree.refl _ _) hs)
 | refuse s=>intro hpl hrf fu tm hp nx K h; cases h
end
end Go.Rex
namespace Go.Rex
open Go.RowKit
section
variable {P:Program}
def CallAt (P:Program) (f:Nat) (args:List AV) (hp:Tr AO) (nx:Pz) (k:AV->Tr AO->Pz->Rs):Prop :=
 ∀B w0 w ι (cargs:Array Value),Wf hp nx->(∀ι',Agree nx ι ι'->Core B w0 ι' hp w/\cargs=(renL ι' args).toArray)->∀G:Value->World->Prop,After B w0 ι nx k G->Gives P (callFunc f cargs) w G
def CodeOk (P:Program) (call:CallT):Prop:=∀f nt c tm hp nx K,call.code f nt c tm hp nx K=.ok->noRF c=true->∀l B w0 w ι a,Sat B w0 nt tm hp nx ι a w->∀Q,AfterX B w0 nt ι nx K Q->c.wpIn (fw (some l)) 0 P Q a w
def CallOk (P:Program) (call:CallT):Prop:=(∀f args hp nx k,call.run f args hp nx k=.ok->CallAt P f args hp nx k)/\CodeOk P call
def YieldOk (P:Program) (call:CallT):Prop:=∀j vs hp nx k,yieldB call j vs hp nx k=.ok->∀B w0 w ι (cargs:Array Value),Wf hp nx->(∀ι',Agree nx ι ι'->Core B w0 ι' hp w/\cargs=(renL ι' vs).toArray)->∀G:Value->World->Prop,After B w0 ι nx k G ->
 Gives P (Instr.yield (ι.blk (natPz (j-1))) cargs) w G
theorem catL_eq (a b:List AV):catL a b=a++b:=by
 induction a with
 | nil=>rfl
 | cons x a ih=>show x::catL a b=_; rw [ih]; rfl
theorem call_to {call:CallT} (hcall:CallOk P call) (hyield:YieldOk P call) {o:Oper} {c:Call} {f:Operand} {tm:Tm} {hp:Tr AO} {nx:Pz} {k:AV->Tr AO->Pz->Rs} (ho:o.op=.call c) (hc:c.callee=.value f)
  (h:((evB f).run tm fun fv=>evsB c.args.toList tm fun vs=>selFun fv (.bad 122) fun f first captured=>match f with
   | .func g=>call.run g (catL first (catL vs captured)) hp nx k
   | .yield j=>List.rec (motive:=fun _=>Rs) (List.rec (motive:=fun _=>Rs) (yieldB call j vs hp nx k) (fun _ _ _=>.bad 122) captured) (fun _ _ _=>.bad 122) first
   | _=>.bad 122)=.ok):OpTo P o tm hp nx k:=by
 obtain⟨fv,h,hfv⟩:=evB_ok h
 obtain⟨vs,h,hvs⟩:=evsB_ok _ h
 cases fv with
 | func fn first captured =>
   cases fn with
   | func g =>
     intro B w0 nt a w ι hs G hn
     have hrun:(execOp a.eval o).run P w=(callFunc g (renL ι (catL first (catL vs captured))).toArray).run P w:=by
      obtain⟨t1,c1⟩:=hs.2 ι (Agree.refl _ _)
      have hargs:c.args.map a.eval=(renL ι vs).toArray:=by rw [map_mk,hvs ι nt a t1]
      simp only [execOp,ho,resolve,hc,hargs,hfv ι nt a t1,ren,renFn,Deferred.ofValue,Sem.run_bind,Sem.run_pure,Result.andThen_ok,invoke]
      congr 2
      rw [catL_eq,catL_eq,renL_append,renL_append]
      simp
     have hargs':∀ι',Agree nx ι ι'->(renL ι (catL first (catL vs captured))).toArray=(renL ι' (catL first (catL vs captured))).toArray:=by
      intro ι' hι
      obtain⟨t1,c1⟩:=hs.2 ι (Agree.refl _ _)
      obtain⟨t2,c2⟩:=hs.2 ι' hι
      have e1:=hvs ι nt a t1
      have e2:=hvs ι' nt a t2
      have e3:=hfv ι nt a t1
      have e4:=hfv ι' nt a t2
      rw [e3] at e4
      simp only [ren,Value.func.injEq,Array.mk.injEq,true_and] at e4
      rw [e1] at e2
      simp only [catL_eq,renL_append,e4.1,e4.2,e2]
     have:=hcall.1 g _ hp nx k h B w0 w ι _ hs.1 (fun ι' hι=>⟨(hs.2 ι' hι).2,hargs' ι' hι⟩) G hn
     unfold Gives at this ⊢
     rw [hrun]
     exact this
   | yield j =>
     cases first with
     | cons x xs=>cases h
     | nil =>
       cases captured with
       | cons x xs=>cases h
       | nil =>
         intro B w0 nt a w ι hs G hn
         have hrun:(execOp a.eval o).run P w=(Instr.yield (ι.blk (natPz (j-1))) (renL ι vs).toArray).run P w:=by
          obtain⟨t1,c1⟩:=hs.2 ι (Agree.refl _ _)
          have hargs:c.args.map a.eval=(renL ι vs).toArray:=by rw [map_mk,hvs ι nt a t1]
          simp only [execOp,ho,resolve,hc,hargs,hfv ι nt a t1,ren,renFn,renL,Deferred.ofValue,Sem.run_bind,Sem.run_pure,Result.andThen_ok,invoke]
          congr 2
          simp
         have:=hyield j vs hp nx k h B w0 w ι (renL ι vs).toArray hs.1 (fun ι' hι=>⟨(hs.2 ι' hι).2,by
          obtain⟨t1,c1⟩:=hs.2 ι (Agree.refl _ _)
          obtain⟨t2,c2⟩:=hs.2 ι' hι
          rw [<-hvs ι nt a t1,<-hvs ι' nt a t2]⟩) G hn
         unfold Gives at this ⊢
         rw [hrun]
         exact this
   | _=>cases h
 | _=>cases h
def resSem (tmps:Array Value) (r:ResultVar):Sem Value :=
 match r with
 | .tmp t=>pure (tmps.getD t undef)
 | .cell x t=>do loadVar t (<-Go.asAddr (tmps.getD x undef))
theorem resOne_ok {r:ResultVar} {tm:Tm} {hp:Tr AO} {k:AV->Rs} (h:resOne P r tm hp k=.ok):∃v,k v=.ok/\∀B w0 ι nt a w,TmpOk ι nt tm a->Core B w0 ι hp w ->
  (resSem a.tmps r).run P w=.ok (ren ι v) w:=by
 cases r with
 | tmp t =>
   have h:(getS t).run tm k=.ok:=h
   rw [getS_eq] at h
   exact⟨_,h,fun B w0 ι nt a w ha hc=>by simp only [resSem,Sem.run_pure,ha.val t]⟩
 | cell x t =>
   unfold resOne at h
   simp only [getS_eq] at h
   obtain⟨id,off,hv,g⟩:=asPtr_ok h
   cases hk:knownT P t with
   | false=>rw [hk] at g; cases g
   | true =>
     obtain⟨d,hd⟩:=known_und hk
     cases ht:aggT P t with
     | true =>
       rw [hk,ht] at g
       obtain⟨l,g,hl⟩:=readCells_ok (k:=fun cs=>k (.agg cs)) g
       refine⟨_,g,fun B w0 ι nt a w ha hc=>?_⟩
       obtain⟨h1,h2⟩:=hl B w0 ι w hc
       have e:=ha.val x
       rw [hv] at e
       simp only [resSem,e,ren,Go.asAddr,Sem.run_bind,Sem.run_pure,Result.andThen_ok,loadVar,run_agg hd,ht,if_true,run_size_und hd]
       rw [run_cells h2 h1]
       simp
     | false =>
       rw [hk,ht] at g
       obtain⟨u,g,hu⟩:=readCell_ok g
       refine⟨u,g,fun B w0 ι nt a w ha hc=>?_⟩
       have e:=ha.val x
       rw [hv] at e
       simp only [resSem,e,ren,Go.asAddr,Sem.run_bind,Sem.run_pure,Result.andThen_ok,loadVar,run_agg hd,ht,Bool.false_eq_true,if_false]
       rw [run_load_cell (hu B w0 ι w hc)]
theorem resAll_ok:∀(rs:List ResultVar) {tm:Tm} {hp:Tr AO} {k:List AV->Rs},resAll P rs tm hp k=.ok->∃vs,k vs=.ok/\∀B w0 ι nt a w,TmpOk ι nt tm a->Core B w0 ι hp w ->
  (rs.mapM (resSem a.tmps)).run P w=.ok (renL ι vs) w
 | [],tm,hp,k,h=>⟨[],h,fun B w0 ι nt a w ha hc=>by simp [renL]⟩
 | r::rs,tm,hp,k,h=>by
   obtain⟨v,h,hv⟩:=resOne_ok (k:=fun v=>resAll P rs tm hp fun vs=>k (v::vs)) h
   obtain⟨vs,h,hvs⟩:=resAll_ok rs h
   refine⟨v::vs,h,fun B w0 ι nt a w ha hc=>?_⟩
   rw [List.mapM_cons,Sem.run_bind,hv B w0 ι nt a w ha hc,Result.andThen_ok,Sem.run_bind,hvs B w0 ι nt a w ha hc]
   simp [renL]
theorem results_ok {fn:Func} {tm:Tm} {hp:Tr AO} {k:AV->Rs} (h:resAll P fn.results.toList tm hp (fun vs=>resK vs fun v=>k v)=.ok):∃v,k v=.ok/\∀B w0 ι nt a w,TmpOk ι nt tm a->Core B w0 ι hp w->(results fn a.tmps).run P w=.ok (ren ι v) w:=by
 obtain⟨vs,h,hvs⟩:=resAll_ok _ h
 have hm:∀B w0 ι nt a w,TmpOk ι nt tm a->Core B w0 ι hp w->(results fn a.tmps).run P w=.ok (if h:(renL ι vs).toArray.size=1 then (renL ι vs).toArray[0] else .tuple (renL ι vs).toArray) w:=by
  intro B w0 ι nt a w ha hc
  have:=hvs B w0 ι nt a w ha hc
  show (fn.results.mapM (resSem a.tmps) >>= fun vs=>pure (if h:vs.size=1 then vs[0] else .tuple vs)).run P w=_
  rw [Sem.run_bind,Array.mapM_eq_mapM_toList,Sem.run_map,this]
  rfl
 cases vs with
 | nil=>exact⟨.tup [],h,fun B w0 ι nt a w ha hc=>by rw [hm B w0 ι nt a w ha hc]; simp [renL,ren]⟩
 | cons v vs =>
   cases vs with
   | nil=>exact⟨v,h,fun B w0 ι nt a w ha hc=>by rw [hm B w0 ι nt a w ha hc]; simp [renL]⟩
   | cons u us=>exact⟨.tup (v::u::us),h,fun B w0 ι nt a w ha hc=>by rw [hm B w0 ι nt a w ha hc]; simp [renL,ren]⟩
theorem laid_eq:∀(vs:List AV) (i:Nat) (t:Tm) (k:Tm->Rs),laidArgs vs i t k=.ok->∃t',k t'=.ok/\t'.ml=t.ml/\∀j,t'.at j=if i<=j/\j<i+vs.length then (vs[j-i]?).getD undefA else t.at j
 | [],i,t,k,h=>⟨t,h,rfl,fun j=>by rw [if_neg (by simp only [List.length_nil]; omega)]⟩
 | v::vs,i,t,k,h=>by
   have h:(setS i).run t v (fun t=>natF (Nat.succ i) fun i=>laidArgs vs i t k)=.ok:=h
   rw [setS_eq,natF_eq] at h
   obtain⟨t',h,hml,ht⟩:=laid_eq vs (i+1) _ k h
   refine⟨t',h,by rw [hml,Tm.put_ml],fun j=>?_⟩
   rw [ht j,List.length_cons]
   by_cases h1:i+1<=j/\j<i+1+vs.length
   · rw [if_pos h1,if_pos (by omega),show j-i=(j-(i+1))+1 by omega,List.getElem?_cons_succ]
   · rw [if_neg h1]
     by_cases h2:j=i
     · subst h2
       rw [Tm.at_put_same,if_pos (by omega),Nat.sub_self]; rfl
     · rw [Tm.at_put_ne h2,if_neg (by omega)]
theorem start_ok {args:List AV} {t':Tm} {nt:Nat} {ι:En} (hml:t'.ml=[]) (hl:args.length<=nt) (ht:∀j,t'.at j=if 0<=j/\j<0+args.length then (args[j-0]?).getD undefA else Tm.e.at j) :
  TmpOk ι nt t' { tmps:=(renL ι args).toArray++Array.replicate (nt-(renL ι args).toArray.size) undef,defers:=[] }:=by
 refine⟨by simp [renL_length]; omega,by rw [hml]; rfl,fun j=>?_⟩
 have e:t'.at j=(args[j]?).getD undefA:=by
  rw [ht j]
  by_cases hj:j<args.length
  · rw [if_pos (by omega)]; rfl
  · rw [if_neg (by omega),Tm.at_e,List.getElem?_eq_none (by omega)]; rfl
 rw [e]
 simp only [Array.getD_eq_getD_getElem?,Array.getElem?_append,List.size_toArray,renL_length,List.getElem?_toArray,Array.getElem?_replicate]
 by_cases hj:j<args.length
 · rw [if_pos hj,renL_get,List.getElem?_eq_getElem hj]; rfl
 · rw [if_neg hj,List.getElem?_eq_none (by omega:args.length<=j),Option.getD_none,ren_undef]
   split<;>rfl
theorem find_next_none:Extern.allNextRows.lookup "math.Float64frombits"=none/\Extern.allNextRows.lookup ""=none:=by
 constructor<;>kernel_rfl
theorem run_frombits {f:Nat} {fn:Func} (hf:P.funcs[f]?=some fn) (hb:fn.body=none) (h1:fn.name = "math.Float64frombits") (h2:fn.origin = "math.Float64frombits"∨fn.origin = "") (n:Nat) (w:World) {ι:En} :
  (callFunc f (renL ι [.int .u64 (.ofNat n)]).toArray).run P w=.ok (.value (.float .f64 n)) w:=by
 have e1:Extern.findNext fn=none:=by
  unfold Extern.findNext
  rcases h2 with h2 | h2<;>simp only [h1,h2,find_next_none.1,find_next_none.2]<;>rfl
 have e2:Extern.find fn=some Extern.MathFloatBits.float64frombits:=by
  unfold Extern.find
  simp only [h1]
  kernel_rfl
 simp only [callFunc,Sem.run_bind,run_program,Result.andThen_ok,hf,h1,hb,e1,e2,Option.isNone_none,renL,ren]
 rfl
theorem isMark_ok {o:AO} {r:Rs} (h:isMark o r=.ok):o=.dmark/\r=.ok:=by
 cases o with
 | dmark=>exact⟨rfl,h⟩
 | _=>cases h
theorem endK_ok {fn:Func} {tmps:Array Value} {R:Ending->World->Prop} {B:Nat->Prop} {w0:World} {nx:Pz} {ι:En}:∀(l:List Pz) (hp:Tr AO) (k:Tr AO->Rs),endK l hp k=.ok->Wf hp nx->∀{w:World},(∀ι',Agree nx ι ι'->Core B w0 ι' hp w) ->
  ∃hp',k hp'=.ok/\Wf hp' nx/\∃w',(∀ι',Agree nx ι ι'->Core B w0 ι' hp' w')/\((∃v,(results fn tmps).run P w'=.ok v w'/\R (.returned v) w')->LeavesInM (fw none) 0 P fn tmps R (marks ι l) .returning w)
 | [],hp,k,h,hw,w,hc=>⟨hp,h,hw,w,hc,fun h=>h⟩
 | id::l,hp,k,h,hw,w,hc=>by
   have h:hp.getK id (.bad 292) (fun o=>isMark o (hp.setK id .gone fun hp=>endK l hp k))=.ok:=h
   obtain⟨o,ho,h⟩:=getK_ok h
   obtain⟨rfl,g⟩:=isMark_ok h
   rw [Tr.setK_eq] at g
   have hb0:=(hc ι (Agree.refl _ _)).obj _ _ ho
   have hlt:ι.blk id<w.heap.size:=(Array.getElem?_eq_some_iff.1 hb0).1
   have hc':∀ι',Agree nx ι ι'->Core B w0 ι' (hp.set id .gone) (w.putObj (ι.blk id) (.deferred none)):=fun ι' hι=>by
    have c1:=hc ι' hι
    have hbi:=(hι id (hw.lt _ _ ho)).1
    have hbase:=c1.base _ _ ho trivial
    rw [hbi] at hbase
    have hoth:∀b,b≠ι'.blk id->(w.putObj (ι.blk id) (.deferred none)).heap[b]?=w.heap[b]?:=fun b hbne=>World.putObj_heap_other (fun e=>hbne (by rw [hbi]; exact e))
    refine swap_core ho rfl (fun _ _ h=>by cases h) rfl (fun _ _ h=>by cases h) c1 (c1.below.trans ⟨rfl,rfl,rfl,by simp,fun b hb'=>hoth b (fun e=>hbase (by rw [<-hbi,<-e]; exact hb'))⟩) (fun k hk=>by simp; exact c1.room k hk) hoth ?_
    show ((w.putObj (ι.blk id) (.deferred none)).heap[ι'.blk id]?).isSome=true
    rw [hbi,World.putObj_heap_same hlt]; rfl
   obtain⟨hp',hk,hwf,w',hcc,hgo⟩:=endK_ok l _ k g (swap_wf hw ho rfl (fun _ _ h=>by cases h) rfl (fun _ _ h=>by cases h)) hc'
   exact⟨hp',hk,hwf,w',hcc,fun hr=>⟨by simp,.inl ⟨_,_,rfl,run_takeDeferred hb0,hgo hr⟩⟩⟩
theorem fnB_ok {call:CallT} (hrange:RangeOk P call) (fu:Nat) (Pl:Nat->Nat->List Ph) (hpl:∀f fn c,P.funcs[f]?=some fn->fn.body=some c->plansOk P (Pl f) c=true) (hops:OpsOk P call) (hdraw:∀nt,DrawOk P call nt)
  {f:Nat} {args:List AV} {hp:Tr AO} {nx:Pz} {k:AV->Tr AO->Pz->Rs} (h:(fnB P Pl f).run fu call args hp nx k=.ok):CallAt P f args hp nx k:=by
  unfold fnB at h
  cases hf:P.funcs[f]? with
  | none=>rw [hf] at h; cases h
  | some fn =>
    rw [hf] at h
    simp only at h
    cases hb:fn.body with
    | none =>
      rw [hb] at h
      simp only at h
      cases hq:(fn.name == "math.Float64frombits"&&(fn.origin == "math.Float64frombits"||fn.origin == "")) with
      | false=>rw [hq] at h; cases h
      | true =>
        rw [hq] at h
        simp only at h
        intro B w0 w ι cargs hw hc G hG
        obtain⟨n,rfl,hk⟩:∃n,args=[.int .u64 (.ofNat n)]/\k (.float .f64 n) hp nx=.ok:=by
         split at h
         · exact⟨_,rfl,h⟩
         · cases h
        refine .inl ⟨.float .f64 n,w,.inl ?_,hG (.float .f64 n) hp nx ι _ w hk hw (Nat.le_refl _) (Agree.refl _ _) fun ι' hι=>⟨(hc ι' hι).1,by simp [ren]⟩⟩
        rw [(hc ι (Agree.refl _ _)).2]
        simp only [Bool.and_eq_true,Bool.or_eq_true,beq_iff_eq] at hq
        exact run_frombits hf hb hq.1 hq.2 n w
    | some c =>
      rw [hb] at h
      simp only at h
      cases hn:(fn.name == "runtime.NumGoroutine") with
      | true=>rw [hn] at h; cases h
      | false =>
        rw [hn] at h
        obtain⟨hl,h⟩:=ifK_ok h
        have hl:=ble_ok hl
        obtain⟨t',h,hml,ht⟩:=laid_eq _ _ _ _ h
        intro B w0 w ι cargs hw hc R hR
        refine .inr (.inl ⟨f,cargs,w,by simp only [callFunc,Sem.run_bind,run_program,Result.andThen_ok,hf,hn,hb,Option.isNone_some,Bool.false_eq_true,if_false,Sem.run_pure],?_⟩)
        refine callsIn_wide.1 (callsIn_of_wp_marks (F:=fw none) (n:=0) hf hb trivial ?_)
        have hsat:Sat B w0 fn.ntmps t' hp nx ι { tmps:=cargs++Array.replicate (fn.ntmps-cargs.size) undef,defers:=[] } w:=by
         refine⟨hw,fun ι' hι=>⟨?_,(hc ι' hι).1⟩⟩
         rw [(hc ι' hι).2]
         exact start_ok hml hl ht
        refine code_to (r:=none) hops (hdraw _) hrange c (hpl f fn c hf hb) (.inl rfl) fu t' hp nx _ h hsat (fun e tm' hp' nx' ι2 a' w' hk hle ha hs=>?_)
        have fin:endK tm'.ml hp' (fun hp'=>resAll P fn.results.toList tm' hp' fun vs=>resK vs fun v=>k v hp' nx')=.ok->LeavesInM (fw none) 0 P fn a'.tmps (fun e w''=>∃cv,e=.returned cv/\R cv w'') a'.defers .returning w':=by
         intro hk
         obtain⟨t0,c0⟩:=hs.2 ι2 (Agree.refl _ _)
         rw [t0.defers]
         obtain⟨hp2,hk2,hwf2,w2,hc2,hgo⟩:=endK_ok tm'.ml hp' _ hk hs.1 fun ι' hι=>(hs.2 ι' hι).2
         refine hgo ?_
         obtain⟨v,hkv,hv⟩:=results_ok (k:=fun v=>k v hp2 nx') hk2
         refine⟨_,hv B w0 ι2 _ a' w2 t0 (hc2 ι2 (Agree.refl _ _)),_,rfl,hR v hp2 nx' ι2 _ w2 hkv hwf2 hle ha (fun ι' hι=>?_)⟩
         obtain⟨t2,_⟩:=hs.2 ι' hι
         refine⟨hc2 ι' hι,?_⟩
         have e1:=hv B w0 ι2 _ a' w2 t0 (hc2 ι2 (Agree.refl _ _))
         have e2:=hv B w0 ι' _ a' w2 t2 (hc2 ι' hι)
         rw [e1] at e2
         simpa using e2
        cases e with
        | nrm=>exact fin hk
        | ext id=>cases hk
        | ret=>exact fin hk
end
end Go.Rex
namespace Go.Rex
open Go.RowKit
section
variable {P:Program} {o:Oper} {tm:Tm} {hp:Tr AO} {nx:Pz} {k:AV->Tr AO->Pz->Rs} {call:CallT}
def Bd (tm:Tm) (y:Option Operand) (d n:Nat):Prop:=(y=none/\n=d)∨∃op kd,y=some op/\∀ι nt a,TmpOk ι nt tm a->a.eval op=.int kd (n:Int)
theorem optNat_ok {y:Option Operand} {d:Nat} {k:Nat->Rs} (h:optNat (y.map evB) tm d k=.ok):∃n,k n=.ok/\Bd tm y d n:=by
 cases y with
 | none=>exact⟨d,h,.inl ⟨rfl,rfl⟩⟩
 | some op =>
   obtain⟨v,h,hv⟩:=evB_ok (x:=op) h
   obtain⟨kd,n,rfl,g⟩:=asNat_ok h
   exact⟨n,g,.inr ⟨op,kd,rfl,fun ι nt a ha=>by rw [hv ι nt a ha,ren_int]⟩⟩
theorem bound_ok {w:World} {kd:IntKind} {n y:Nat} {code:BoundsCode} (h:n<=y):(Instr.sliceBound (.int kd (n:Int)) y code).run P w=.ok n w:=by
 simp only [Instr.sliceBound,asIntOf,Sem.run_bind,Sem.run_pure,Result.andThen_ok]
 rw [if_pos ⟨by omega,by omega⟩]
 simp
theorem bounds_ok {w:World} {ι:En} {nt:Nat} {a:Act} {lo hi:Option Operand} {b:Bool} {len cap l h:Nat} (ha:TmpOk ι nt tm a) (hh:Bd tm hi len h) (hl:Bd tm lo 0 l) (h1:l<=h) (h2:h<=cap) :
  (Instr.sliceBounds b len cap (lo.map a.eval) (hi.map a.eval) none).run P w=.ok (l,h,cap) w:=by
 unfold Instr.sliceBounds
 rcases hh with ⟨rfl,rfl⟩ | ⟨oh,kh,rfl,eh⟩
 · rcases hl with ⟨rfl,rfl⟩ | ⟨ol,kl,rfl,el⟩
   · simp
   · simp only [Option.map_some,Option.map_none,Sem.run_bind,Sem.run_pure,Result.andThen_ok,el ι nt a ha,bound_ok h1,Option.isSome_none,Bool.false_eq_true,if_false]
 · rcases hl with ⟨rfl,rfl⟩ | ⟨ol,kl,rfl,el⟩
   · simp only [Option.map_some,Option.map_none,Sem.run_bind,Sem.run_pure,Result.andThen_ok,eh ι nt a ha,bound_ok h2]
   · simp only [Option.map_some,Option.map_none,Sem.run_bind,Sem.run_pure,Result.andThen_ok,eh ι nt a ha,el ι nt a ha,bound_ok h2,bound_ok h1,Option.isSome_none,Bool.false_eq_true,if_false]
theorem sliceStr_ok {t:TypeId} {x:Operand} {lo hi:Option Operand} (ho:o.op=.slice t x lo hi none) (hu:P.underlying t=some .string)
  (h:((evB x).run tm fun v=>match v with
   | .str len n=>optNat (hi.map evB) tm len fun h=>optNat (lo.map evB) tm 0 fun l=>ifK (Nat.ble l h&&Nat.ble h len) (natF (Nat.sub h l) fun ln=>natF (Nat.div n (pow8 (Nat.sub len h))) fun m=>k (.str ln m) hp nx) (.bad 50)
   | _=>.bad 51)=.ok):ValTo P o tm hp nx k:=by
 obtain⟨v,h,hv⟩:=evB_ok h
 cases v with
 | str len n =>
   obtain⟨hh,h,bh⟩:=optNat_ok h
   obtain⟨l,h,bl⟩:=optNat_ok h
   obtain⟨hb,h⟩:=ifK_ok h
   simp only [Bool.and_eq_true] at hb
   have b1:=ble_ok hb.1
   have b2:=ble_ok hb.2
   rw [natF_eq,natF_eq] at h
   have key:OVal P o tm hp (.str (Nat.sub hh l) (Nat.div n (pow8 (Nat.sub len hh)))):=fun B w0 ι nt a w ha hc=>by
    have hsz:(ByteArray.mk (bytesOf len n).toArray).size=len:=by show (bytesOf len n).toArray.size=len; simp [bytesOf_length]
    simp only [execOp,ho]
    rw [hv ι nt a ha]
    simp only [ren,Option.map_none,Instr.sliceAt,Instr.slice,Sem.run_bind,run_und hu,Result.andThen_ok,Option.isSome_none,Bool.false_eq_true,if_false,Sem.run_pure]
    rw [hsz,bounds_ok ha bh bl b1 b2]
    simp only [Result.andThen_ok,Sem.run_pure,Result.ok.injEq,and_true,Next.value.injEq,Value.string.injEq]
    apply ByteArray.ext
    rw [ByteArray.data_extract]
    apply Array.ext'
    simp only [Array.toList_extract,pow8_eq]
    have e1:bytesOf hh (n/256 ^ (len-hh))=(bytesOf len n).take hh:=by
     have:=bytesOf_take (len-hh) hh n
     rw [show hh+(len-hh)=len by omega] at this
     exact this
    have e2:bytesOf (hh-l) (n/256 ^ (len-hh))=(bytesOf hh (n/256 ^ (len-hh))).drop l:=by
     have:=bytesOf_drop (hh-l) l (n/256 ^ (len-hh))
     rw [show l+(hh-l)=hh by omega] at this
     exact this
    show _=bytesOf (hh-l) (n/256 ^ (len-hh))
    rw [e2,e1,List.drop_take]
   exact val_to key h
 | _=>cases h
theorem slice_rest {w:World} {t el:TypeId} (hu:P.underlying t=some (.slice el)) {b q len cap l h m:Nat} {lo hi mx:Option Value} (hb:(Instr.sliceBounds true len cap lo hi mx).run P w=.ok (l,h,m) w) :
  (Instr.sliceAt t (.slice (some ⟨b,q,none⟩) len cap) lo hi mx).run P w=.ok (.slice (some (if m=l then ⟨b,q,none⟩ else ⟨b,q+l*szOf P el,none⟩)) (h-l) (m-l)) w∨P.info? el=none:=by
 cases hi':P.info? el with
 | none=>exact .inr rfl
 | some i =>
   refine .inl ?_
   simp only [Instr.sliceAt,Instr.slice,Sem.run_bind,run_und hu,Result.andThen_ok,hb,run_size hi',Sem.run_pure]
   split
   · simp [*]
   · simp [*,addr_add]
theorem sliceEx_ok {t el:TypeId} {x:Operand} {lo hi:Option Operand} {id:Pz} {off len cap:Nat} (ho:o.op=.slice t x lo hi none) (hu:P.underlying t=some (.slice el)) (hi':∃i,P.info? el=some i) (hv:∀ι nt a,TmpOk ι nt tm a->a.eval x=ren ι (.slice id off len cap))
  (h:(optNat (hi.map evB) tm len fun h=>optNat (lo.map evB) tm 0 fun l=>ifK (Nat.ble l h&&Nat.ble h cap)
          (natF (Nat.sub h l) fun ln=>natF (Nat.sub cap l) fun c=>ifK (Nat.beq cap l) (k (.slice id off ln c) hp nx) (natF (off+l*szOf P el) fun off=>k (.slice id off ln c) hp nx)) (.bad 53))=.ok):ValTo P o tm hp nx k:=by
 obtain⟨hh,h,bh⟩:=optNat_ok h
 obtain⟨l,h,bl⟩:=optNat_ok h
 obtain⟨hb,h⟩:=ifK_ok h
 simp only [Bool.and_eq_true] at hb
 have b1:=ble_ok hb.1
 have b2:=ble_ok hb.2
 simp only [natF_eq] at h
 obtain⟨i,hi'⟩:=hi'
 have run:∀B w0 ι nt a w,TmpOk ι nt tm a->Core B w0 ι hp w->(execOp a.eval o).run P w=.ok (.value (.slice (some (if cap=l then ⟨ι.blk id,ι.sh id+off,none⟩ else ⟨ι.blk id,ι.sh id+off+l*szOf P el,none⟩)) (hh-l) (cap-l))) w:=by
  intro B w0 ι nt a w ha hc
  simp only [execOp,ho]
  rw [hv ι nt a ha]
  simp only [ren,Option.map_none,Sem.run_bind]
  rcases slice_rest hu (b:=ι.blk id) (q:=ι.sh id+off) (bounds_ok (P:=P) (w:=w) (b:=true) ha bh bl b1 b2) with e | e
  · rw [e]; rfl
  · rw [e] at hi'; cases hi'
 rcases ifK_two h with ⟨hq,h⟩ | ⟨hq,h⟩
 · have hq:=beq_ok hq
   have key:OVal P o tm hp (.slice id off (Nat.sub hh l) (Nat.sub cap l)):=fun B w0 ι nt a w ha hc=>by
    rw [run B w0 ι nt a w ha hc,if_pos hq]; simp [ren]
   exact val_to key h
 · have hq:=beq_no hq
   have key:OVal P o tm hp (.slice id (off+l*szOf P el) (Nat.sub hh l) (Nat.sub cap l)):=fun B w0 ι nt a w ha hc=>by
    rw [run B w0 ι nt a w ha hc,if_neg hq]; simp [ren,Nat.add_assoc]
   exact val_to key h
theorem sliceNil_ok {t el:TypeId} {x:Operand} {lo hi:Option Operand} (ho:o.op=.slice t x lo hi none) (hu:P.underlying t=some (.slice el)) (hi':∃i,P.info? el=some i) (hv:∀ι nt a,TmpOk ι nt tm a->a.eval x=ren ι .nils)
  (h:(optNat (hi.map evB) tm 0 fun h=>optNat (lo.map evB) tm 0 fun l=>ifK (Nat.beq h 0&&Nat.beq l 0) (k .nils hp nx) (.bad 59))=.ok):ValTo P o tm hp nx k:=by
 obtain⟨hh,h,bh⟩:=optNat_ok h
 obtain⟨l,h,bl⟩:=optNat_ok h
 obtain⟨hb,h⟩:=ifK_ok h
 simp only [Bool.and_eq_true] at hb
 have b1:=beq_ok hb.1
 have b2:=beq_ok hb.2
 subst b1
 subst b2
 obtain⟨i,hi'⟩:=hi'
 have key:OVal P o tm hp .nils:=fun B w0 ι nt a w ha hc=>by
  simp only [execOp,ho]
  rw [hv ι nt a ha]
  simp only [ren,Option.map_none,Sem.run_bind,Instr.sliceAt,Instr.slice,run_und hu,Result.andThen_ok]
  rw [bounds_ok (P:=P) (w:=w) (b:=true) (cap:=0) ha bh bl (Nat.le_refl _) (Nat.le_refl _)]
  simp [run_size hi']
 exact val_to key h
end
end Go.Rex
namespace Go.Rex
open Go.RowKit
section
variable {P:Program} {o:Oper} {tm:Tm} {hp:Tr AO} {nx:Pz} {k:AV->Tr AO->Pz->Rs} {call:CallT}
theorem end_child {id f:Pz} {ep es n skip l:Nat} {tip s0:Bool} {el:TypeId} {c:Tr (List AV)} (hw:Wf hp nx) (ho:hp.get id=some (.seg f ep tip es n el c)) (hf:hp.get f=some (.fam ep s0)) (hl:skip+l=n) {B:Nat->Prop} {w0 w:World} {ι:En} (hc:Core B w0 ι hp w)
  (hb:ι.blk nx=ι.blk id) (hs:ι.sh nx=if ι.kap id-skip=l then ι.sh id+skip*es else ι.sh id+skip*es+l*es) (hk:ι.kap nx=ι.kap id-skip-l) :
  Core B w0 ι ((cutHp hp id f ep es n el c).set nx (.seg f ep tip es 0 el .e)) w:=by
 have hep2:ep=ep∨ep=ep+1:=.inl rfl
 have hlv:live hp f ep:=⟨_,hf⟩
 have hw1:=cut_wf (n0:=n) hw ho hf hep2
 have hc1:=cut_core (n0:=n) hw ho hf hep2 (Nat.le_refl _) hc
 obtain⟨C,fz,g1,g2,g3,g4,g5⟩:=hc.obj _ _ ho hlv
 have hmul:n*es=skip*es+l*es:=by rw [<-hl,Nat.add_mul]
 have hkm:ι.kap id*es=n*es+(ι.kap id-skip-l)*es:=by rw [<-Nat.add_mul]; congr 1; omega
 have hsle:ι.sh nx<=ι.sh id+n*es:=by rw [hs]; split<;>omega
 have hcell:∀i,(cutHp hp id f ep es n el c).get i≠none->True:=fun _ _=>trivial
 have hblk1:∀i o,i≠id->(cutHp hp id f ep es n el c).get i=some o->own (cutHp hp id f ep es n el c) o->ι.blk i=ι.blk id->famOf o=some f:=by
  intro i o hi hg hown e
  have hgid:(cutHp hp id f ep es n el c).get id=some (.seg f ep false es n el c):=Tr.get_set_same _ _ _
  have hlid:live (cutHp hp id f ep es n el c) f ep:=by
   refine⟨false,?_⟩
   have hne:f≠id:=fun e=>by rw [e,ho] at hf; cases hf
   unfold cutHp
   rw [Tr.get_set_ne hne,Tr.get_set_same]
  obtain⟨g,e1,e2⟩:=hc1.sep i id o _ hi hg hgid hown hlid e
  cases e2
  exact e1
 have hid:∀o,(cutHp hp id f ep es n el c).get id=some o->o=.seg f ep false es n el c:=by
  intro o hg
  have hgid:(cutHp hp id f ep es n el c).get id=some (.seg f ep false es n el c):=Tr.get_set_same _ _ _
  rw [hgid] at hg
  exact (Option.some.inj hg).symm
 refine core_child hw1 hc1 (fun _=>⟨C,fz,by rw [hb]; exact g1,?_,Nat.zero_le _,cellsAt_nil _ _ _ _ _,g5⟩) (fun i o hg hown=>hc1.obj i o hg) hc.below hc.room (by rw [hb]; exact hc.base _ _ ho hlv) (fun i o hg hown e=>?_) (fun ht i f' e' tp' es' n' el' c'' hg hl'=>⟨fun e=>?_,fun e hlt=>?_⟩) (fun i f' e' es' n' el' c'' hg hl'=>⟨fun e=>?_,fun e hlt=>?_⟩)
 · rw [hk,hs]
   split
   · rename_i h; rw [h,Nat.sub_self,Nat.zero_mul]; omega
   · omega
 · rw [hb] at e
   by_cases hi:i=id
   · subst hi; rw [hid _ hg]; rfl
   · exact hblk1 i o hi hg hown e
 · by_cases hi:i=id
   · subst hi; cases hid _ hg; rfl
   · exact (cut_rest hw ho hf (.inl ⟨rfl,ht,rfl⟩) hc hi hg hl' e.symm).1
 · rw [hb] at e
   rw [Nat.zero_mul,Nat.add_zero,hs,if_neg (by omega)]
   by_cases hi:i=id
   · subst hi; cases hid _ hg; omega
   · have hfo:=hblk1 i _ hi hg hl' e.symm
     have:=(cut_rest hw ho hf (.inl ⟨rfl,ht,rfl⟩) hc hi hg hl' (Option.some.inj hfo)).2 e.symm (by omega)
     omega
 · by_cases hi:i=id
   · subst hi; cases hid _ hg
   · cases ht:tip with
     | false=>rfl
     | true=>exact absurd (cut_rest hw ho hf (.inl ⟨rfl,ht,rfl⟩) hc hi hg hl' e).1 (by decide)
 · rw [hb] at e
   by_cases hi:i=id
   · subst hi; cases hid _ hg
   · have hfo:=hblk1 i _ hi hg hl' e
     rcases cut_get hg with ⟨h,_⟩ | ⟨_,_,h⟩ | ⟨_,_,h⟩
     · exact absurd h hi
     · cases h
     · have hown:=(cut_own (o:=.seg f' e' true es' n' el' c'') hw ho hf hep2 hi h hl').1
       have:=(hc.tip i id _ _ _ _ _ _ _ _ _ _ _ _ _ hi h ho hown hlv).2 e hlt
       rw [Nat.zero_mul,Nat.add_zero]
       omega
theorem sliceOp_ok {t el:TypeId} {x:Operand} {lo hi:Option Operand} {id:Pz} {off len skip:Nat} (ho:o.op=.slice t x lo hi none) (hu:P.underlying t=some (.slice el)) (hi':∃i,P.info? el=some i) (hv:∀ι nt a,TmpOk ι nt tm a->a.eval x=ren ι (.oslice id off len skip))
  (h:(optNat (hi.map evB) tm len fun h=>optNat (lo.map evB) tm 0 fun l =>
      hp.getK id (.bad 55) fun o=>match o with
      | .seg f ep tip es n el' c=>liveK hp f ep fun _=>ifK (Nat.ble l h&&Nat.ble (skip+h) n)
        (ifK (Nat.beq l 0&&Nat.blt 0 h) (k (.oslice id off h skip) hp nx)
         (ifK (Nat.blt (skip+l) n) (natF (Nat.sub h l) fun ln=>natF (off+l*szOf P el) fun off=>natF (skip+l) fun skip=>k (.oslice id off ln skip) hp nx)
          (ifK (Nat.beq es (szOf P el)&&Nat.beq off (skip*es))
            (hp.setK f (.fam ep false) fun hp=>hp.setK id (.seg f ep false es n el' c) fun hp =>
             newObj hp nx (.seg f ep tip es 0 el' .e) fun id hp nx=>k (.oslice id 0 0 0) hp nx) (.bad 56)))) (.bad 58)
      | _=>.bad 57)=.ok):OpTo P o tm hp nx k:=by
 obtain⟨hh,h,bh⟩:=optNat_ok h
 obtain⟨l,h,bl⟩:=optNat_ok h
 obtain⟨ob,hob,h⟩:=getK_ok h
 cases ob with
 | seg f ep tip es n el' c =>
   obtain⟨s0,hf,h1⟩:=liveK_ok h
   obtain⟨hb,h2⟩:=ifK_ok h1
   simp only [Bool.and_eq_true] at hb
   have b1:=ble_ok hb.1
   have b2:=ble_ok hb.2
   obtain⟨i,hi'⟩:=hi'
   have run:∀B w0 ι nt a w,TmpOk ι nt tm a->Core B w0 ι hp w->n<=ι.kap id/\(execOp a.eval o).run P w=.ok (.value (.slice (some (if ι.kap id-skip=l then ⟨ι.blk id,ι.sh id+off,none⟩ else ⟨ι.blk id,ι.sh id+off+l*szOf P el,none⟩)) (hh-l) (ι.kap id-skip-l))) w:=by
    intro B w0 ι nt a w ha hc
    obtain⟨C,fz,g1,g2,g3,g4,g5⟩:=hc.obj _ _ hob ⟨_,hf⟩
    refine⟨g3,?_⟩
    simp only [execOp,ho]
    rw [hv ι nt a ha]
    simp only [ren,Option.map_none,Sem.run_bind]
    rcases slice_rest hu (b:=ι.blk id) (q:=ι.sh id+off) (bounds_ok (P:=P) (w:=w) (b:=true) (cap:=ι.kap id-skip) ha bh bl b1 (by omega)) with e | e
    · rw [e]; rfl
    · rw [e] at hi'; cases hi'
   rcases ifK_two h2 with ⟨hq,h3⟩ | ⟨_,h3⟩
   · simp only [Bool.and_eq_true] at hq
     have q1:=beq_ok hq.1
     have q2:=blt_ok hq.2
     subst q1
     have key:OVal P o tm hp (.oslice id off hh skip):=fun B w0 ι nt a w ha hc=>by
      obtain⟨g3,hr⟩:=run B w0 ι nt a w ha hc
      rw [hr,if_neg (by omega)]; simp [ren]
     exact (val_to key h3).to
   · rcases ifK_two h3 with ⟨hq,h4⟩ | ⟨hq,h4⟩
     · have hq:=blt_ok hq
       simp only [natF_eq] at h4
       have key:OVal P o tm hp (.oslice id (off+l*szOf P el) (Nat.sub hh l) (skip+l)):=fun B w0 ι nt a w ha hc=>by
        obtain⟨g3,hr⟩:=run B w0 ι nt a w ha hc
        rw [hr,if_neg (by omega)]; simp [ren,Nat.add_assoc,Nat.sub_sub]
       exact (val_to key h4).to
     · have hq:=blt_no hq
       obtain⟨hz,h5⟩:=ifK_ok h4
       simp only [Bool.and_eq_true] at hz
       have z1:=beq_ok hz.1
       have z2:=beq_ok hz.2
       subst z1
       subst z2
       rw [Tr.setK_eq,Tr.setK_eq,newObj_eq] at h5
       have hln:skip+l=n:=by omega
       have hhl:hh=l:=by omega
       refine Eff.to (v:=.oslice nx 0 0 0) (hp':=(cutHp hp id f ep (szOf P el) n el' c).set nx (.seg f ep tip (szOf P el) 0 el' .e)) (nx':=nx.succ) ⟨by rw [Pz.num_succ]; omega,fun hw=>tail_wf hw hob hf (.inl rfl),fun B w0 nt a w ι hs=>?_⟩ h5
       obtain⟨t1,c1⟩:=hs.2 ι (Agree.refl _ _)
       have hidlt:=hs.1.lt _ _ hob
       obtain⟨g3,hr⟩:=run B w0 ι nt a w t1 c1
       refine⟨_,_,w,agree_at ι nx (ι.blk id) (if ι.kap id-skip=l then ι.sh id+skip*szOf P el else ι.sh id+skip*szOf P el+l*szOf P el) (ι.kap id-skip-l),.inl hr,fun ι' hι=>?_⟩
       obtain⟨ha,k1,k2,k3⟩:=agree_at' hι
       obtain⟨d1,d2,d3⟩:=ha id hidlt
       obtain⟨t2,c2⟩:=hs.2 ι' ha
       refine⟨end_child hs.1 hob hf hln c2 (by rw [k1,d1]) (by rw [k2,d2,d3]) (by rw [k3,d3]),?_⟩
       simp only [ren,k1,k2,k3,Nat.add_zero,Nat.sub_zero,hhl,Nat.sub_self]
       split<;>rfl
 | _=>cases h
end
end Go.Rex
namespace Go.Rex
open Go.RowKit
section
variable {P:Program} {o:Oper} {tm:Tm} {hp:Tr AO} {nx:Pz} {k:AV->Tr AO->Pz->Rs} {call:CallT}
theorem convInt_ok {s t:TypeId} {x:Operand} {ks kt:IntKind} (ho:o.op=.convert s t x) (hs:P.underlying s=some (.int ks)) (ht:P.underlying t=some (.int kt))
  (h:((evB x).run tm fun v=>asInt v fun _ n=>wrapC kt n fun n=>k (.int kt n) hp nx)=.ok):ValTo P o tm hp nx k:=by
 obtain⟨v,h,hv⟩:=evB_ok h
 obtain⟨kd,n,rfl,g⟩:=asInt_ok h
 have g:=wrapC_ok g
 have key:OVal P o tm hp (.int kt (kt.wrap n)):=fun B w0 ι nt a w ha hc=>by
  simp only [execOp,ho]
  rw [hv ι nt a ha]
  simp only [ren,convert,Sem.run_bind,run_und hs,run_und ht,Result.andThen_ok,Conv.intToInt,Sem.run_pure]
 exact val_to key g
theorem convStr_ok {s t:TypeId} {x:Operand} (ho:o.op=.convert s t x) (hs:P.underlying s=some .string) (ht:P.underlying t=some .string)
  (h:((evB x).run tm fun v=>match v with | .str l n=>k (.str l n) hp nx | _=>.bad 90)=.ok):ValTo P o tm hp nx k:=by
 obtain⟨v,h,hv⟩:=evB_ok h
 cases v with
 | str l n =>
   have key:OVal P o tm hp (.str l n):=fun B w0 ι nt a w ha hc=>by
    simp only [execOp,ho]
    rw [hv ι nt a ha]
    simp only [ren,convert,Sem.run_bind,run_und hs,run_und ht,Result.andThen_ok,Sem.run_pure]
   exact val_to key h
 | _=>cases h
theorem bytesStr_ok:∀(ls:List (List AV)) (n:Nat) (k:Nat->Rs),bytesStr ls n k=.ok->∃(m:Nat) (bs:List UInt8),k m=.ok/\bs.length=ls.length/\(∀l0,bytesOf (l0+ls.length) m=bytesOf l0 n++bs)/\(even 1 ls->∀ι,renL ι ls.flatten=bs.map fun b=>Value.int .u8 (b.toNat:Int))
 | [],n,k,h=>⟨n,[],h,rfl,fun l0=>by simp,fun _ ι=>rfl⟩
 | l::ls,n,k,h=>by
   obtain⟨v,hv,h⟩:=nthK_ok 0 (l:=l) (k:=fun v=>match v with | .int .u8 (.ofNat b)=>ifK (Nat.blt b 256) (natF (n*256+b) fun n=>bytesStr ls n k) (.bad 85) | _=>.bad 85) h
   split at h
   · rename_i b
     obtain⟨hb,h⟩:=ifK_ok h
     have hb:=blt_ok hb
     rw [natF_eq] at h
     obtain⟨m,bs,hk,hl,hm,hr⟩:=bytesStr_ok ls _ k h
     refine⟨m,UInt8.ofNat b::bs,hk,by simp [hl],fun l0=>?_,fun he ι=>?_⟩
     · rw [List.length_cons,show l0+(ls.length+1)=(l0+1)+ls.length by omega,hm,bytesOf_snoc _ _ _ hb]
       simp
     · have h1:=he l (List.mem_cons_self ..)
       have h2:l=[.int .u8 (.ofNat b)]:=by
        cases l with
        | nil=>simp at hv
        | cons y ys =>
          simp only [List.getElem?_cons_zero,Option.some.injEq] at hv
          simp only [List.length_cons,Nat.add_eq_right,List.length_eq_zero_iff] at h1
          rw [hv,h1]
       rw [List.flatten_cons,renL_append,hr (fun x hx=>he x (List.mem_cons_of_mem _ hx)) ι,h2]
       simp only [renL,List.cons_append,List.nil_append,List.map_cons,ren_int]
       congr 3
       rw [UInt8.toNat_ofNat']
       omega
   · cases h
theorem run_bytes (bs:List UInt8) {w:World} (f:Value->ByteArray->Sem (ForInStep ByteArray)) (hf:∀(b:UInt8) s w,(f (.int .u8 (b.toNat:Int)) s).run P w=.ok (.yield (s.push b)) w) (s0:ByteArray) :
  (forIn (bs.map fun b=>Value.int .u8 (b.toNat:Int)) s0 f).run P w=.ok ⟨(s0.data.toList++bs).toArray⟩ w:=by
 induction bs generalizing s0 with
 | nil=>simp
 | cons b bs ih =>
   simp only [List.map_cons,List.forIn_cons,Sem.run_bind,hf,Result.andThen_ok]
   rw [ih]
   congr 2
   simp
theorem convBytes_ok {s t e:TypeId} {x:Operand} (ho:o.op=.convert s t x) (hs:P.underlying s=some (.slice e)) (ht:P.underlying t=some .string) (he:P.underlying e=some (.int .u8))
  (h:((evB x).run tm fun v=>match v with
   | .str _ _=>.bad 98
   | v=>elemsOf hp 1 v fun ls=>natF ls.length fun l=>bytesStr ls 0 fun n=>k (.str l n) hp nx)=.ok):ValTo P o tm hp nx k:=by
 obtain⟨v,h,hv⟩:=evB_ok h
 have main:(elemsOf hp 1 v fun ls=>natF ls.length fun l=>bytesStr ls 0 fun n=>k (.str l n) hp nx)=.ok->(∀ι,(∃b q len cap,ren ι v=.slice (some ⟨b,q,none⟩) len cap)∨ren ι v=.slice none 0 0)->ValTo P o tm hp nx k:=by
  intro h hkind
  obtain⟨ls,h,hsrc⟩:=elemsOf_ok (P:=P) h
  rw [natF_eq] at h
  obtain⟨m,bs,hk,hl,hm,hr⟩:=bytesStr_ok _ _ _ h
  have hm0:bytesOf ls.length m=bs:=by have:=hm 0; simpa [bytesOf] using this
  have key:OVal P o tm hp (.str ls.length m):=fun B w0 ι nt a w ha hc=>by
   have hs':=hsrc B w0 ι w hc
   have hlen:=hs'.len
   have hcells:=hs'.cells
   simp only [execOp,ho]
   rw [hv ι nt a ha]
   simp only [ren,hm0]
   rcases hkind ι with ⟨b,q,len,cap,ee⟩ | ee
   · rw [ee] at hlen hcells ⊢
     simp only [Builtin.lenOf,Sem.run_pure,Result.ok.injEq,and_true] at hlen
     simp only [Builtin.firstCells,Nat.mul_one] at hcells
     rw [hr hs'.even ι] at hcells
     have hb:(Conv.bytesToString (.slice (some ⟨b,q,none⟩) len cap)).run P w=.ok (.string ⟨bs.toArray⟩) w:=by
      unfold Conv.bytesToString
      rw [Sem.run_bind,hlen,hcells,Result.andThen_ok,Sem.run_bind,<-Array.forIn_toList]
      rw [show ((bs.map fun b=>Value.int .u8 (b.toNat:Int)).toArray).toList=bs.map fun b=>Value.int .u8 (b.toNat:Int) from rfl]
      rw [run_bytes (P:=P) bs (w:=w) _ (fun b s w=>by simp) ByteArray.empty]
      simp
     simp only [convert,Sem.run_bind,run_und hs,run_und ht,run_und he,Result.andThen_ok,hb,Sem.run_pure]
   · rw [ee] at hlen ⊢
     simp only [Builtin.lenOf,Sem.run_pure,Result.ok.injEq,and_true] at hlen
     have:bs=[]:=List.eq_nil_of_length_eq_zero (by rw [hl,<-hlen])
     subst this
     simp only [convert,Sem.run_bind,run_und hs,run_und ht,run_und he,Result.andThen_ok,Conv.bytesToString,Sem.run_pure]
     rfl
  exact val_to key hk
 cases v with
 | slice id off len cap=>exact main h (fun ι=>.inl ⟨ι.blk id,ι.sh id+off,len,cap,by simp only [ren]⟩)
 | oslice id off len skip=>exact main h (fun ι=>.inl ⟨ι.blk id,ι.sh id+off,len,ι.kap id-skip,by simp only [ren]⟩)
 | nils=>exact main h (fun ι=>.inr (by simp only [ren]))
 | _=>cases h
end
end Go.Rex
namespace Go.Rex
open Go.RowKit
theorem freeze_alloc (w:World) (C:Array Value) (e:TypeId):(w.alloc (.cells C e (0,0))).freeze ⟨w.heap.size,C.size,none⟩ 1=w.alloc (.cells C e (C.size,C.size+1)):=by
 unfold World.freeze
 rw [if_neg (by decide)]
 have hh:(w.heap.push (Obj.cells C e (0,0))).modify w.heap.size (fun
   | .cells c elem (lo,hi)=>.cells c elem (if lo==hi then (C.size,C.size+1) else (min lo C.size,max hi (C.size+1)))
   | o=>o)=w.heap.push (Obj.cells C e (C.size,C.size+1)):=by
  apply Array.ext_getElem?
  intro i
  rw [Array.getElem?_modify,Array.getElem?_push,Array.getElem?_push]
  by_cases hi:w.heap.size=i
  · subst hi; simp
  · rw [if_neg hi,if_neg (fun h=>hi h.symm),if_neg (fun h=>hi h.symm)]
 exact congrArg (fun h=>({ w with heap:=h }:World)) hh
theorem run_newRow {P:Program} (w:World) (C:Array Value) (e:TypeId):(newRow e C).run P w=.ok ⟨w.heap.size,0,none⟩ (w.alloc (.cells C e (0,0))):=rfl
theorem run_mark {P:Program} (w:World) (C:Array Value) (e:TypeId):(markStringish ⟨w.heap.size,0,none⟩).run P (w.alloc (.cells C e (0,0)))=.ok () (w.alloc (.cells C e (C.size,C.size+1))):=by
 have h:(w.alloc (.cells C e (0,0))).shape? w.heap.size=some (e,C.size):=by
  unfold World.shape?
  rw [heap_alloc_new]
 simp only [markStringish,Sem.run_bind,run_shape,h,Result.andThen_ok,run_freeze]
 rw [freeze_alloc]
section
variable {P:Program} {o:Oper} {tm:Tm} {hp:Tr AO} {nx:Pz} {k:AV->Tr AO->Pz->Rs} {call:CallT}
theorem convToBytes_ok {s t e:TypeId} {x:Operand} (ho:o.op=.convert s t x) (hs:P.underlying s=some .string) (ht:P.underlying t=some (.slice e)) (he:P.underlying e=some (.int .u8))
  (h:((evB x).run tm fun v=>match v with
   | .str l n=>strElems l n [] fun ls=>ifK (smallRow l 1) (grow hp nx e 1 ls k) (.bad 91)
   | _=>.bad 92)=.ok):OpTo P o tm hp nx k:=by
 obtain⟨v,h,hv⟩:=evB_ok h
 cases v with
 | str l n =>
   have h:(strElems l n [] fun ls=>ifK (smallRow l 1) (grow hp nx e 1 ls k) (.bad 91))=.ok:=h
   rw [strElems_ok,List.append_nil] at h
   obtain⟨hsm,h⟩:=ifK_ok h
   unfold grow at h
   rw [natF_eq,layK_eq,newObj_eq,newObj_eq] at h
   have hlen:(strL l n).length=l:=by simp [strL,bytesOf_length]
   have heven:even 1 (strL l n):=fun x hx=>by
    unfold strL at hx
    obtain⟨b,_,rfl⟩:=List.mem_map.1 hx
    rfl
   rw [hlen] at h
   refine (grow_eff (fun B w0 ι nt a w ha hc=>?_)).to h
   generalize hcap:(Question.appendCap l 0 e).cut (w.tape w.drawn (.appendCap l 0 e))=cap
   have hle:l<=cap:=by rw [<-hcap]; simp only [Question.cut]; omega
   generalize hC:((bytesOf l n).toArray.map fun b=>Value.int .u8 (b.toNat:Int))++Array.replicate (cap-l) (Value.int .u8 0)=C
   have hCs:C.size=cap:=by rw [<-hC]; simp [bytesOf_length]; omega
   refine⟨cap,C,(C.size,C.size+1),w.drew,core_drew hc,rfl,?_,hle,by rw [hCs]; omega,?_,Or.inr (Nat.le_refl _)⟩
   · simp only [execOp,ho]
     rw [hv ι nt a ha]
     have hsz:(ByteArray.mk (bytesOf l n).toArray).size=l:=by show (bytesOf l n).toArray.size=l; simp [bytesOf_length]
     have e1:({ w with drawn:=w.drawn+1 }:World)=w.drew:=rfl
     simp only [ren,convert,Sem.run_bind,run_und hs,run_und ht,run_und he,Result.andThen_ok,Conv.stringToBytes,hsz,run_choose,Question.forced,Bool.false_eq_true,if_false,hcap,e1,run_newRow,Sem.run_pure,hC,run_mark]
   · have:=cellsAt_lay (ι:=ι) (C:=C) (C':=C) (base:=0) (c:=.e) (cellsAt_nil ι C 0 1 .e) heven (fun i hi=>rfl) (fun i hi=>?_)
     · rw [Nat.zero_add,hlen] at this
       exact this
     · rw [Nat.zero_mul,Nat.zero_add,Nat.zero_add]
       rw [hlen,Nat.mul_one] at hi
       have hfl:(strL l n).flatten=(bytesOf l n).map fun b=>AV.int .u8 (.ofNat b.toNat):=by
        unfold strL
        generalize bytesOf l n=bs
        induction bs with
        | nil=>rfl
        | cons b bs ih=>simp only [List.map_cons,List.flatten_cons,ih]; rfl
       rw [hfl,<-hC,Array.getElem?_append_left (by simp [bytesOf_length,hi]),Array.getElem?_map,List.getElem?_toArray,List.getElem?_map,Option.map_map]
       congr 1
 | _=>cases h
end
end Go.Rex
namespace Go.Rex
open Go.RowKit
section
variable {P:Program}
def Found (P:Program) (t:TypeId) (k:AV) (es:List ME) (r:Option (Nat × ME)):Prop :=
 match r with
 | none=>∀e∈es,EqIs P 9 t k e.key false
 | some (j,e)=>∃pre post,es=pre++e::post/\j=pre.length/\(∀x∈pre,EqIs P 9 t k x.key false)/\EqIs P 9 t k e.key true
theorem findE_ok {t:TypeId} {k:AV}:∀(es:List ME) (i:Nat) (z:Rs) (kk:Nat->ME->Rs),findE P t k es i z kk=.ok->(z=.ok/\Found P t k es none)∨∃j e,kk (i+j) e=.ok/\Found P t k es (some (j,e))
 | [],i,z,kk,h=>.inl ⟨h,fun e he=>by simp at he⟩
 | e::es,i,z,kk,h=>by
   have h:eqvF P 9 t k e.key (fun b=>ifK b (kk i e) (natF (i+1) fun i=>findE P t k es i z kk))=.ok:=h
   obtain⟨b,h,hb⟩:=eqvF_ok P _ _ _ _ _ h
   rcases ifK_two h with ⟨rfl,h⟩ | ⟨rfl,h⟩
   · exact .inr ⟨0,e,h,[],es,rfl,rfl,fun x hx=>by simp at hx,hb⟩
   · rw [natF_eq] at h
     rcases findE_ok es (i+1) z kk h with ⟨h1,h2⟩ | ⟨j,e',h1,pre,post,h2,h3,h4,h5⟩
     · refine .inl ⟨h1,fun x hx=>?_⟩
       rcases List.mem_cons.1 hx with rfl | hx
       · exact hb
       · exact h2 x hx
     · refine .inr ⟨j+1,e',by rw [show i+(j+1)=i+1+j by omega]; exact h1,e::pre,post,by rw [h2]; rfl,by rw [h3]; rfl,fun x hx=>?_,h5⟩
       rcases List.mem_cons.1 hx with rfl | hx
       · exact hb
       · exact h4 x hx
noncomputable def foundV (ι:En) (i:Nat):Option (Nat × ME)->Option (Nat × Value)
 | none=>none
 | some (j,e)=>some (i+j,ren ι e.val)
theorem asking_ok {t:TypeId} {k:AV} {w:World} {ι:En}:∀(es:List ME) (i:Nat) (r:Option (Nat × ME)),Found P t k es r->(Instr.findAsking t (ren ι k) (es.map (entR ι)) i).run P w=.ok (foundV ι i r) w
 | [],i,none,h=>rfl
 | [],i,some (j,e),h=>by obtain⟨pre,post,h1,_⟩:=h; cases pre<;>cases h1
 | e::es,i,none,h=>by
   have he:=eqv_eql (h e (List.mem_cons_self ..)) ι w
   simp only [List.map_cons,Instr.findAsking,Sem.run_bind,entR,he,Result.andThen_ok,Bool.false_eq_true,if_false]
   exact asking_ok es (i+1) none (fun x hx=>h x (List.mem_cons_of_mem _ hx))
 | e::es,i,some (j,e'),h=>by
   obtain⟨pre,post,h1,h2,h3,h4⟩:=h
   cases pre with
   | nil =>
     cases h1
     have he:=eqv_eql h4 ι w
     simp only [List.map_cons,Instr.findAsking,Sem.run_bind,entR,he,Result.andThen_ok,if_true,Sem.run_pure,foundV,h2]
     rfl
   | cons x pre =>
     cases h1
     have he:=eqv_eql (h3 e (List.mem_cons_self ..)) ι w
     simp only [List.map_cons,Instr.findAsking,Sem.run_bind,entR,he,Result.andThen_ok,Bool.false_eq_true,if_false]
     have:=asking_ok (t:=t) (k:=k) (w:=w) (ι:=ι) (pre++e'::post) (i+1) (some (pre.length,e')) ⟨pre,post,rfl,rfl,fun y hy=>h3 y (List.mem_cons_of_mem _ hy),h4⟩
     refine this.trans ?_
     rw [h2]
     simp only [foundV,List.length_cons]
     congr 3
     omega
theorem same_ok {t:TypeId} {d:TypeDesc} {a b:Value} {c:Bool} (hu:P.underlying t=some d) (h:Instr.sameNow d a b=some c) (w:World):(Op.equal t a b).run P w=.ok c w:=by
 unfold Instr.sameNow at h
 split at h
 · rename_i kd k a k' b
   by_cases hk:k=k'
   · subst hk
     rw [if_pos rfl] at h
     cases h
     exact run_equalIn_int w 9999 t k kd a b hu
   · rw [if_neg hk] at h; cases h
 · rename_i a b
   cases h
   have:=run_equalIn_string w 9999 t a b hu
   rw [<-beq_toListBytes] at this
   exact this
 · rename_i a b
   cases h
   exact run_equalIn_bool' w 9999 t a b hu
 · cases h
theorem now_ok {t:TypeId} {d:TypeDesc} {k:AV} {ι:En} (hu:P.underlying t=some d):∀(es:List ME) (i:Nat) (r:Option (Nat × ME)) (q:Option (Nat × Value)),Found P t k es r->Instr.findNow d (ren ι k) (es.map (entR ι)) i=some q->q=foundV ι i r
 | [],i,none,q,h,hq=>by cases hq; rfl
 | [],i,some (j,e),q,h,hq=>by obtain⟨pre,post,h1,_⟩:=h; cases pre<;>cases h1
 | e::es,i,r,q,h,hq=>by
   simp only [List.map_cons,Instr.findNow,entR] at hq
   cases hs:Instr.sameNow d (ren ι k) (ren ι e.key) with
   | none=>rw [hs] at hq; cases hq
   | some c =>
     rw [hs] at hq
     have hc:=same_ok hu hs default
     cases r with
     | none =>
       have he:=eqv_eql (h e (List.mem_cons_self ..)) ι default
       rw [hc] at he
       cases he
       exact now_ok hu es (i+1) none q (fun x hx=>h x (List.mem_cons_of_mem _ hx)) hq
     | some je =>
       obtain⟨j,e'⟩:=je
       obtain⟨pre,post,h1,h2,h3,h4⟩:=h
       cases pre with
       | nil =>
         cases h1
         have he:=eqv_eql h4 ι default
         rw [hc] at he
         cases he
         cases hq
         rw [h2]; rfl
       | cons x pre =>
         cases h1
         have he:=eqv_eql (h3 e (List.mem_cons_self ..)) ι default
         rw [hc] at he
         cases he
         have:=now_ok hu (pre++e'::post) (i+1) (some (pre.length,e')) q ⟨pre,post,rfl,rfl,fun y hy=>h3 y (List.mem_cons_of_mem _ hy),h4⟩ hq
         rw [this,h2]
         simp only [foundV,List.length_cons]
         congr 2
         omega
theorem find_ok {t:TypeId} {d:TypeDesc} {k:AV} {ι:En} {w:World} {es:List ME} {r:Option (Nat × ME)} (hu:P.underlying t=some d) (h:Found P t k es r):(Instr.findKey t (ren ι k) (es.map (entR ι))).run P w=.ok (foundV ι 0 r) w:=by
 unfold Instr.findKey
 rw [Sem.run_bind,run_und hu,Result.andThen_ok]
 cases hn:Instr.findNow d (ren ι k) (es.map (entR ι)) 0 with
 | none=>exact asking_ok es 0 r h
 | some q=>simp only [Sem.run_pure]; rw [now_ok hu es 0 r q h hn]
end
end Go.Rex
namespace Go.Rex
open Go.RowKit
section
variable {hp:Tr AO} {id:Pz} {x y:AO}
def putMap (w:World) (b:Nat) (E:Array MapEntry) (cl:Nat):World:={ w with heap:=w.heap.setIfInBounds b (.map E cl) }
theorem map_put {es es':List ME} {cl cl':Nat} (ho:hp.get id=some (.map es cl)):(∀nx,Wf hp nx->Wf (hp.set id (.map es' cl')) nx)/\∀B w0 ι w,Core B w0 ι hp w->∀E':Array MapEntry,E'.toList=es'.map (entR ι)->Core B w0 ι (hp.set id (.map es' cl')) (putMap w (ι.blk id) E' cl'):=by
 refine⟨fun nx hw=>swap_wf hw ho rfl (fun _ _ h=>by cases h) rfl (fun _ _ h=>by cases h),fun B w0 ι w hc E' hE=>?_⟩
 obtain⟨E,h1,h2⟩:=hc.obj _ _ ho
 have hb:=hc.base _ _ ho trivial
 have hlt:=(Array.getElem?_eq_some_iff.1 h1).1
 have hoth:∀b,b≠ι.blk id->(putMap w (ι.blk id) E' cl').heap[b]?=w.heap[b]?:=fun b hbne=>by
  show (w.heap.setIfInBounds _ _)[b]?=_
  rw [Array.getElem?_setIfInBounds_ne (fun e=>hbne e.symm)]
 refine swap_core ho rfl (fun _ _ h=>by cases h) rfl (fun _ _ h=>by cases h) hc (hc.below.trans ⟨rfl,rfl,rfl,by simp [putMap],fun b hb'=>hoth b (fun e=>hb (e▸hb'))⟩) (fun k hk=>by simp [putMap]; exact hc.room k hk) hoth ⟨E',?_,hE⟩
 show (w.heap.setIfInBounds _ _)[ι.blk id]?=_
 simp [hlt]
end
end Go.Rex
namespace Go.Rex
open Go.RowKit
section
variable {P:Program} {o:Oper} {tm:Tm} {hp:Tr AO} {nx:Pz} {k:AV->Tr AO->Pz->Rs} {call:CallT}
theorem bits1_ok {a b:AV} (h:bits1 a b=true) (ι:En):ren ι a=ren ι b/\∀n,Instr.sameBits n (ren ι a) (ren ι b)=true:=by
 unfold bits1 at h
 split at h
 · rename_i x y
   obtain rfl:x=y:=by simpa using h
   exact⟨rfl,fun n=>by cases n<;>simp [ren,Instr.sameBits]⟩
 · simp only [Bool.and_eq_true,decide_eq_true_eq,beq_iff_eq] at h
   obtain⟨rfl,rfl⟩:=h
   exact⟨rfl,fun n=>by cases n<;>simp [ren,Instr.sameBits]⟩
 · rw [strEq_iff] at h
   have h:=by simpa using h
   simp only [ren]
   rw [h]
   exact⟨rfl,fun n=>by cases n<;>(simp only [Instr.sameBits]; rw [beq_toListBytes]; exact beq_self_eq_true _)⟩
 · cases h
theorem bitsL_ok (ι:En):∀{as bs:List AV},bitsL as bs=true->renL ι as=renL ι bs/\∀n,((renL ι as).zip (renL ι bs)).all (fun (x,y)=>Instr.sameBits n x y)=true
 | [],[],_=>⟨rfl,fun n=>rfl⟩
 | [],_::_,h=>by cases h
 | _::_,[],h=>by cases h
 | a::as,b::bs,h=>by
   simp only [bitsL,Bool.and_eq_true] at h
   obtain⟨h1,h2⟩:=bits1_ok h.1 ι
   obtain⟨h3,h4⟩:=bitsL_ok ι h.2
   exact⟨by simp only [renL]; rw [h1,h3],fun n=>by simp only [renL,List.zip_cons_cons,List.all_cons,Bool.and_eq_true]; exact⟨h2 n,h4 n⟩⟩
theorem bitsF_ok {a b:AV} (h:bitsF a b=true) (ι:En):ren ι a=ren ι b/\Instr.sameBits 10000 (ren ι a) (ren ι b)=true:=by
 unfold bitsF at h
 split at h
 · obtain⟨h1,h2⟩:=bitsL_ok ι h
   refine⟨by simp only [ren]; rw [h1],?_⟩
   simp only [ren,Instr.sameBits,Bool.and_eq_true]
   refine⟨by rw [h1]; simp,?_⟩
   have:=h2 9999
   simpa using this
 · obtain⟨h1,h2⟩:=bits1_ok h ι
   exact⟨h1,h2 _⟩
theorem check_scal {t:TypeId} {d:TypeDesc} (hu:P.underlying t=some d) (hd:d=.bool∨(∃kd,d=.int kd)∨d=.string) (e:Bool) (n:Nat) (v:Value) (w:World):(Instr.checkKey e (n+1) t v).run P w=.ok () w:=by
 unfold Instr.checkKey
 rw [Sem.run_bind,run_und hu,Result.andThen_ok]
 rcases hd with rfl | ⟨kd,rfl⟩ | rfl<;>rfl
theorem keyF_ok:∀(d:Nat) {t:TypeId} {v:AV},keyF P d t v=true->(∃dd,P.underlying t=some dd)/\∀e n ι w,(Instr.checkKey e (n+d) t (ren ι v)).run P w=.ok () w
 | 0,t,v,h=>by cases h
 | d+1,t,v,h=>by
   unfold keyF at h
   split at h
   · rename_i hu; exact⟨⟨_,hu⟩,fun e n ι w=>check_scal hu (.inl rfl) e (n+d) _ w⟩
   · rename_i hu; exact⟨⟨_,hu⟩,fun e n ι w=>check_scal hu (.inr (.inl ⟨_,rfl⟩)) e (n+d) _ w⟩
   · rename_i hu; exact⟨⟨_,hu⟩,fun e n ι w=>check_scal hu (.inr (.inr rfl)) e (n+d) _ w⟩
   · rename_i fs hu
     cases v with
     | agg cs =>
       simp only at h
       refine⟨⟨_,hu⟩,fun e n ι w=>?_⟩
       rw [show n+(d+1)=(n+d)+1 by omega]
       unfold Instr.checkKey
       rw [Sem.run_bind,run_und hu,Result.andThen_ok]
       simp only [ren]
       rw [<-Array.forIn_toList]
       generalize fs.toList=l at h
       induction l with
       | nil=>rfl
       | cons f l ih =>
         rw [List.all_cons,Bool.and_eq_true] at h
         obtain⟨h1,h3⟩:=h
         obtain⟨u,hp',hc⟩:∃u,(part f.type (renL ι cs).toArray f.offset).run P w=.ok (ren ι u) w/\(Instr.checkKey e (n+d) f.type (ren ι u)).run P w=.ok () w:=by
          cases hagg:aggT P f.type with
          | true =>
            rw [hagg] at h1
            exact⟨_,part_agg hagg ι w,(keyF_ok d h1).2 e n ι w⟩
          | false =>
            rw [hagg] at h1
            simp only at h1
            cases hg:cs[f.offset]? with
            | none=>rw [hg] at h1; cases h1
            | some u =>
              rw [hg] at h1
              simp only at h1
              obtain⟨⟨dd,hd⟩,hk⟩:=keyF_ok d h1
              exact⟨u,part_one (by unfold knownT; rw [hd]; rfl) hagg hg ι w,hk e n ι w⟩
         have ih:=ih h3
         rw [List.forIn_cons]
         rw [Sem.run_bind] at ih
         by_cases hn:f.name ≠ "_"
         · simp only [if_pos hn,Sem.run_bind,hp',hc,Result.andThen_ok,Sem.run_pure]
           exact ih
         · simp only [if_neg hn,Sem.run_bind,Result.andThen_ok,Sem.run_pure]
           exact ih
     | _=>cases h
   · cases h
theorem keyChk_ok {t:TypeId} {v:AV} {r:Rs} (h:keyChk P t v r=.ok):r=.ok/\(∃d,P.underlying t=some d)/\∀e ι w,(Instr.checkKey e 10000 t (ren ι v)).run P w=.ok () w:=by
 unfold keyChk at h
 split at h
 · rename_i hu; exact⟨h,⟨_,hu⟩,fun e ι w=>check_scal hu (.inl rfl) e 9999 _ w⟩
 · rename_i hu; exact⟨h,⟨_,hu⟩,fun e ι w=>check_scal hu (.inr (.inl ⟨_,rfl⟩)) e 9999 _ w⟩
 · rename_i hu; exact⟨h,⟨_,hu⟩,fun e ι w=>check_scal hu (.inr (.inr rfl)) e 9999 _ w⟩
 · obtain⟨h1,h⟩:=ifK_ok h
   obtain⟨h2,h3⟩:=keyF_ok 4 h1
   exact⟨h,h2,fun e ι w=>h3 e 9996 ι w⟩
 · cases h
theorem run_getMap {w:World} {b:Nat} {E:Array MapEntry} {cl:Nat} (h:w.heap[b]?=some (.map E cl)):(getObj b).run P w=.ok (.map E cl) w:=by
 simp [getObj,Sem.run,h]
theorem run_setMap {w:World} {b:Nat} {E E':Array MapEntry} {cl cl':Nat} (h:w.heap[b]?=some (.map E cl)):(setObj b (.map E' cl')).run P w=.ok () (putMap w b E' cl'):=by
 simp [setObj,Sem.run,h,putMap]
theorem mapK_ok {v:AV} {kk:Pz->List ME->Nat->Rs} (h:mapK hp v kk=.ok):∃id es c,v=.map id/\hp.get id=some (.map es c)/\kk id es c=.ok:=by
 unfold mapK at h
 cases v with
 | map id =>
   have h:hp.getK id (.bad 102) (fun o=>selMap o fun es c=>kk id es c)=.ok:=h
   obtain⟨ob,ho,h⟩:=getK_ok h
   cases ob with
   | map es c=>exact⟨id,es,c,rfl,ho,h⟩
   | _=>cases h
 | _=>cases h
theorem lookup_ok {t kt et:TypeId} {m i:Operand} {ok:Bool} {z:AV} (ho:o.op=.lookup t m i ok) (hu:P.underlying t=some (.map kt et)) (hz:zeroOf P et=some z)
  (h:((evB m).run tm fun m=>(evB i).run tm fun i=>keyChk P kt i (match m with
    | .nilmap=>Bool.rec (motive:=fun _=>Rs) (k z hp nx) (k (.tup [z,.bool false]) hp nx) ok
    | m=>mapK hp m fun _ es _=>findE P kt i es 0 (Bool.rec (motive:=fun _=>Rs) (k z hp nx) (k (.tup [z,.bool false]) hp nx) ok) fun _ e=>Bool.rec (motive:=fun _=>Rs) (k e.val hp nx) (k (.tup [e.val,.bool true]) hp nx) ok))=.ok):ValTo P o tm hp nx k:=by
 obtain⟨mv,h,hm⟩:=evB_ok h
 obtain⟨iv,h,hi⟩:=evB_ok h
 obtain⟨h,⟨d,hd⟩,hchk⟩:=keyChk_ok h
 obtain⟨_,zv,_,_,_,hzero⟩:=zeroOf_ok hz
 have outK:∀{v:AV} {b:Bool},(Bool.rec (motive:=fun _=>Rs) (k v hp nx) (k (.tup [v,.bool b]) hp nx) ok)=.ok->k (if ok then .tup [v,.bool b] else v) hp nx=.ok:=by
  intro v b h
  cases ok<;>exact h
 have big:mapK hp mv (fun _ es _=>findE P kt iv es 0 (Bool.rec (motive:=fun _=>Rs) (k z hp nx) (k (.tup [z,.bool false]) hp nx) ok) fun _ e=>Bool.rec (motive:=fun _=>Rs) (k e.val hp nx) (k (.tup [e.val,.bool true]) hp nx) ok)=.ok->ValTo P o tm hp nx k:=by
  intro h
  obtain⟨id,es,c,rfl,hob,h⟩:=mapK_ok h
  rcases findE_ok _ _ _ _ h with ⟨h,hf⟩ | ⟨j,e,h,hf⟩
  · have key:OVal P o tm hp (if ok then .tup [z,.bool false] else z):=fun B w0 ι nt a w ha hc=>by
     obtain⟨E,h1,h2⟩:=hc.obj _ _ hob
     have hfind:=find_ok (ι:=ι) (w:=w) hd hf
     simp only [execOp,ho,Sem.run_bind]
     rw [hm ι nt a ha,hi ι nt a ha]
     simp only [ren,Instr.lookup,Sem.run_bind,run_und hu,Result.andThen_ok,run_getMap h1,Sem.run_pure,hchk,h2,hfind,foundV,hzero ι]
     cases ok<;>simp [ren,renL]
    exact val_to key (outK h)
  · have key:OVal P o tm hp (if ok then .tup [e.val,.bool true] else e.val):=fun B w0 ι nt a w ha hc=>by
     obtain⟨E,h1,h2⟩:=hc.obj _ _ hob
     have hfind:=find_ok (ι:=ι) (w:=w) hd hf
     simp only [execOp,ho,Sem.run_bind]
     rw [hm ι nt a ha,hi ι nt a ha]
     simp only [ren,Instr.lookup,Sem.run_bind,run_und hu,Result.andThen_ok,run_getMap h1,Sem.run_pure,hchk,h2,hfind,foundV]
     cases ok<;>simp [ren,renL]
    exact val_to key (outK h)
 cases mv with
 | nilmap =>
   have key:OVal P o tm hp (if ok then .tup [z,.bool false] else z):=fun B w0 ι nt a w ha hc=>by
    have hfind:=find_ok (ι:=ι) (w:=w) (es:=[]) (r:=none) (k:=iv) hd (fun e he=>by simp at he)
    simp only [execOp,ho,Sem.run_bind]
    rw [hm ι nt a ha,hi ι nt a ha]
    simp only [ren,Instr.lookup,Sem.run_bind,run_und hu,Result.andThen_ok,Sem.run_pure,hchk]
    rw [show ([]:List MapEntry)=([]:List ME).map (entR ι) from rfl,hfind]
    simp only [foundV,Result.andThen_ok,Sem.run_bind,hzero ι,Sem.run_pure]
    cases ok<;>simp [ren,renL]
   exact val_to key (outK h)
 | _=>exact big h
theorem setVal_ok {v:AV}:∀(j:Nat) {es:List ME} {kk:List ME->Rs},setValK v j es kk=.ok->∃e,es[j]?=some e/\kk (es.set j ⟨e.key,v,e.born⟩)=.ok
 | 0,[],kk,h=>by cases h
 | 0,e::es,kk,h=>⟨e,rfl,h⟩
 | j+1,[],kk,h=>by cases h
 | j+1,e::es,kk,h=>by
   obtain⟨e',h1,h2⟩:=setVal_ok j (es:=es) (kk:=fun t=>kk (e::t)) h
   exact⟨e',by simpa using h1,by simpa using h2⟩
theorem snocK_ok (e:ME):∀(es:List ME) (kk:List ME->Rs),snocK e es kk=kk (es++[e])
 | [],kk=>rfl
 | x::es,kk=>by
   show snocK e es (fun t=>kk (x::t))=_
   rw [snocK_ok e es]; rfl
theorem dropE_ok:∀(j:Nat) {es:List ME} {kk:List ME->Rs},dropE j es kk=.ok->kk (es.eraseIdx j)=.ok/\j<es.length
 | 0,[],kk,h=>by cases h
 | 0,e::es,kk,h=>⟨h,by simp⟩
 | j+1,[],kk,h=>by cases h
 | j+1,e::es,kk,h=>by
   obtain⟨h1,h2⟩:=dropE_ok j (es:=es) (kk:=fun t=>kk (e::t)) h
   exact⟨by simpa using h1,by simpa using h2⟩
theorem bornE_ok {b:Nat}:∀(es:List ME) (i:Nat) (kk:Nat->Rs),bornE b es i kk=.ok->∃j,kk (i+j)=.ok/\∀ι,(es.map (entR ι)).findIdx? (fun e=>(e.born:Int)==(b:Int))=some j
 | [],i,kk,h=>by cases h
 | e::es,i,kk,h=>by
   rcases ifK_two (b:=Nat.beq e.born b) (x:=kk i) (y:=natF (i+1) fun i=>bornE b es i kk) h with ⟨hb,h⟩ | ⟨hb,h⟩
   · exact⟨0,h,fun ι=>by rw [List.map_cons,List.findIdx?_cons,if_pos (by simp [entR,beq_ok hb])]⟩
   · rw [natF_eq] at h
     obtain⟨j,h1,h2⟩:=bornE_ok es _ _ h
     refine⟨j+1,by rw [show i+(j+1)=i+1+j by omega]; exact h1,fun ι=>?_⟩
     have hne:=beq_no hb
     rw [List.map_cons,List.findIdx?_cons,if_neg (by simp [entR]; omega),h2 ι]; rfl
theorem mod_list (E:Array MapEntry) (j:Nat) (f:MapEntry->MapEntry) (l:List MapEntry) (h:E.toList=l):(E.modify j f).toList=l.modify j f:=by rw [Array.toList_modify,h]
theorem entR_modify (ι:En) (v:AV) (kn:Value):∀(es:List ME) (j:Nat) (e:ME),es[j]?=some e->kn=ren ι e.key->(es.map (entR ι)).modify j (fun x=>{ x with key:=kn,val:=ren ι v })=(es.set j ⟨e.key,v,e.born⟩).map (entR ι)
 | [],j,e,h,_=>by simp at h
 | x::es,0,e,h,hk=>by
   simp only [List.getElem?_cons_zero,Option.some.injEq] at h
   subst h
   simp [entR,hk]
 | x::es,j+1,e,h,hk=>by
   have:=entR_modify ι v kn es j e (by simpa using h) hk
   simp only [List.map_cons,List.modify_succ_cons,List.set_cons_succ]
   rw [this]
theorem entR_same (ι:En) (kn:Value):∀(es:List ME) (j:Nat) (e:ME),es[j]?=some e->kn=ren ι e.key->(es.map (entR ι)).modify j (fun x=>{ x with key:=kn })=es.map (entR ι)
 | [],j,e,h,_=>by simp at h
 | x::es,0,e,h,hk=>by
   simp only [List.getElem?_cons_zero,Option.some.injEq] at h
   subst h
   simp [entR,hk]
 | x::es,j+1,e,h,hk=>by
   have:=entR_same ι kn es j e (by simpa using h) hk
   simp only [List.map_cons,List.modify_succ_cons]
   rw [this]
theorem entR_val (ι:En) (v:AV):∀(es:List ME) (j:Nat) (e:ME),es[j]?=some e->(es.map (entR ι)).modify j (fun x=>{ x with val:=ren ι v })=(es.set j ⟨e.key,v,e.born⟩).map (entR ι)
 | [],j,e,h=>by simp at h
 | x::es,0,e,h=>by
   simp only [List.getElem?_cons_zero,Option.some.injEq] at h
   subst h
   simp [entR]
 | x::es,j+1,e,h=>by
   have:=entR_val ι v es j e (by simpa using h)
   simp only [List.map_cons,List.modify_succ_cons,List.set_cons_succ]
   rw [this]
theorem found_at {t:TypeId} {kv:AV} {es:List ME} {j:Nat} {e:ME} (h:Found P t kv es (some (j,e))):es[j]?=some e:=by
 obtain⟨pre,post,h1,h2,_⟩:=h
 rw [h1,h2]
 simp
theorem E_at {ι:En} {E:Array MapEntry} {es:List ME} {j:Nat} {e:ME} (h2:E.toList=es.map (entR ι)) (hj:es[j]?=some e):E[j]?=some (entR ι e):=by
 rw [<-Array.getElem?_toList,h2,List.getElem?_map,hj]; rfl
theorem update_ok {t kt et:TypeId} {m i x:Operand} (ho:o.op=.mapUpdate t m i x∨o.op=.insert t m i x) (hu:P.underlying t=some (.map kt et))
  (h:((evB m).run tm fun m=>(evB i).run tm fun i=>(evB x).run tm fun x=>keyChk P kt i (mapK hp m fun id es c =>
    findE P kt i es 0 (snocK ⟨i,x,c⟩ es fun es=>natF (c+1) fun c=>hp.setK id (.map es c) fun hp=>k undefA hp nx)
     fun j e=>ifK (bitsF e.key i) (setValK x j es fun es=>hp.setK id (.map es c) fun hp=>k undefA hp nx) (.bad 107)))=.ok):OpTo P o tm hp nx k:=by
 obtain⟨mv,h,hm⟩:=evB_ok h
 obtain⟨iv,h,hi⟩:=evB_ok h
 obtain⟨xv,h,hx⟩:=evB_ok h
 obtain⟨h,⟨d,hd⟩,hchk⟩:=keyChk_ok h
 obtain⟨id,es,c,rfl,hob,h⟩:=mapK_ok h
 have hexec:∀(a:Act),execOp a.eval o=(do Instr.mapUpdate t (a.eval m) (a.eval i) (a.eval x); pure .skip):=by
  intro a
  rcases ho with ho | ho<;>simp only [execOp,ho]
 rcases findE_ok _ _ _ _ h with ⟨h,hf⟩ | ⟨j,e,h,hf⟩
 · rw [snocK_ok,natF_eq,Tr.setK_eq] at h
   have key:OWr P o tm hp nx undefA (hp.set id (.map (es++[⟨iv,xv,c⟩]) (c+1))):=by
    refine⟨(map_put hob).1 nx,fun B w0 ι nt a w hw ha hc=>?_⟩
    obtain⟨E,h1,h2⟩:=hc.obj _ _ hob
    have hfind:=find_ok (ι:=ι) (w:=w) hd hf
    refine⟨_,undef,.inr ⟨?_,rfl⟩,(ren_undef ι).symm,(map_put hob).2 B w0 ι w hc (E.push ⟨ren ι iv,ren ι xv,c⟩) (by simp [h2,entR])⟩
    rw [hexec,hm ι nt a ha,hi ι nt a ha,hx ι nt a ha]
    simp only [ren,Instr.mapUpdate,Sem.run_bind,run_und hu,Result.andThen_ok,run_getMap h1,hchk,h2,hfind,foundV,run_setMap h1,Sem.run_pure]
   exact key.eff.to h
 · obtain⟨hb,h⟩:=ifK_ok h
   rw [Nat.zero_add] at h
   obtain⟨e',he',h⟩:=setVal_ok _ h
   rw [Tr.setK_eq] at h
   have hat:=found_at hf
   rw [hat] at he'
   cases he'
   have key:OWr P o tm hp nx undefA (hp.set id (.map (es.set j ⟨e.key,xv,e.born⟩) c)):=by
    refine⟨(map_put hob).1 nx,fun B w0 ι nt a w hw ha hc=>?_⟩
    obtain⟨E,h1,h2⟩:=hc.obj _ _ hob
    have hfind:=find_ok (ι:=ι) (w:=w) hd hf
    obtain⟨hb1,hb2⟩:=bitsF_ok hb ι
    refine⟨_,undef,.inr ⟨?_,rfl⟩,(ren_undef ι).symm,(map_put hob).2 B w0 ι w hc (E.modify j fun y=>{ y with key:=ren ι iv,val:=ren ι xv }) (by rw [mod_list _ _ _ _ h2]; exact entR_modify ι xv _ es j e hat hb1.symm)⟩
    rw [hexec,hm ι nt a ha,hi ι nt a ha,hx ι nt a ha]
    simp only [ren,Instr.mapUpdate,Sem.run_bind,run_und hu,Result.andThen_ok,run_getMap h1,hchk,h2,hfind,foundV,Nat.zero_add,E_at h2 hat,Option.map_some,Option.getD_some,Instr.keyThatStays]
    rw [show (entR ι e).key=ren ι e.key from rfl,hb2]
    simp only [if_true,Sem.run_pure,Result.andThen_ok,run_setMap h1]
   exact key.eff.to h
theorem entry_ok {t kt et:TypeId} {m i:Operand} {z:AV} (ho:o.op=.mapEntry t m i) (hu:P.underlying t=some (.map kt et)) (hz:zeroOf P et=some z)
  (h:((evB m).run tm fun m=>(evB i).run tm fun i=>keyChk P kt i (mapK hp m fun id es c =>
    findE P kt i es 0 (snocK ⟨i,z,c⟩ es fun es=>natF (c+1) fun c'=>hp.setK id (.map es c') fun hp=>k (.tup [z,.int .i64 (.ofNat c)]) hp nx)
     fun _ e=>ifK (bitsF e.key i) (hp.setK id (.map es c) fun hp=>k (.tup [e.val,.int .i64 (.ofNat e.born)]) hp nx) (.bad 107)))=.ok):OpTo P o tm hp nx k:=by
 obtain⟨mv,h,hm⟩:=evB_ok h
 obtain⟨iv,h,hi⟩:=evB_ok h
 obtain⟨h,⟨d,hd⟩,hchk⟩:=keyChk_ok h
 obtain⟨id,es,c,rfl,hob,h⟩:=mapK_ok h
 obtain⟨_,zv,_,_,_,hzero⟩:=zeroOf_ok hz
 rcases findE_ok _ _ _ _ h with ⟨h,hf⟩ | ⟨j,e,h,hf⟩
 · rw [snocK_ok,natF_eq,Tr.setK_eq] at h
   have key:OWr P o tm hp nx (.tup [z,.int .i64 (.ofNat c)]) (hp.set id (.map (es++[⟨iv,z,c⟩]) (c+1))):=by
    refine⟨(map_put hob).1 nx,fun B w0 ι nt a w hw ha hc=>?_⟩
    obtain⟨E,h1,h2⟩:=hc.obj _ _ hob
    have hfind:=find_ok (ι:=ι) (w:=w) hd hf
    refine⟨_,_,.inl ?_,rfl,(map_put hob).2 B w0 ι w hc (E.push ⟨ren ι iv,ren ι z,c⟩) (by simp [h2,entR])⟩
    simp only [execOp,ho]
    rw [hm ι nt a ha,hi ι nt a ha]
    simp only [ren,renL,Instr.mapEntry,Sem.run_bind,run_und hu,Result.andThen_ok,run_getMap h1,hchk,h2,hfind,foundV,hzero ι,run_setMap h1,Sem.run_pure,goInt]
    rfl
   exact key.eff.to h
 · obtain⟨hb,h⟩:=ifK_ok h
   rw [Tr.setK_eq] at h
   have hat:=found_at hf
   have key:OWr P o tm hp nx (.tup [e.val,.int .i64 (.ofNat e.born)]) (hp.set id (.map es c)):=by
    refine⟨(map_put hob).1 nx,fun B w0 ι nt a w hw ha hc=>?_⟩
    obtain⟨E,h1,h2⟩:=hc.obj _ _ hob
    have hfind:=find_ok (ι:=ι) (w:=w) hd hf
    obtain⟨hb1,hb2⟩:=bitsF_ok hb ι
    refine⟨_,_,.inl ?_,rfl,(map_put hob).2 B w0 ι w hc (E.modify j fun y=>{ y with key:=ren ι iv }) (by rw [mod_list _ _ _ _ h2]; exact entR_same ι _ es j e hat hb1.symm)⟩
    simp only [execOp,ho]
    rw [hm ι nt a ha,hi ι nt a ha]
    simp only [ren,renL,Instr.mapEntry,Sem.run_bind,run_und hu,Result.andThen_ok,run_getMap h1,hchk,h2,hfind,foundV,Nat.zero_add,E_at h2 hat,Option.map_some,Option.getD_some,Instr.keyThatStays]
    rw [show (entR ι e).key=ren ι e.key from rfl,hb2]
    simp only [if_true,Sem.run_pure,Sem.run_bind,Result.andThen_ok,run_setMap h1,goInt,entR]
    rfl
   exact key.eff.to h
theorem entryStore_ok {t:TypeId} {m s x:Operand} (ho:o.op=.entryStore t m s x)
  (h:((evB m).run tm fun m=>(evB s).run tm fun s=>(evB x).run tm fun x=>mapK hp m fun id es c=>asNat s fun b =>
  bornE b es 0 fun j=>setValK x j es fun es=>hp.setK id (.map es c) fun hp=>k undefA hp nx)=.ok):OpTo P o tm hp nx k:=by
 obtain⟨mv,h,hm⟩:=evB_ok h
 obtain⟨sv,h,hsv⟩:=evB_ok h
 obtain⟨xv,h,hx⟩:=evB_ok h
 obtain⟨id,es,c,rfl,hob,h⟩:=mapK_ok h
 obtain⟨kd,b,rfl,h⟩:=asNat_ok h
 obtain⟨j,h,hj⟩:=bornE_ok _ _ _ h
 rw [Nat.zero_add] at h
 obtain⟨e,he,h⟩:=setVal_ok _ h
 rw [Tr.setK_eq] at h
 have key:OWr P o tm hp nx undefA (hp.set id (.map (es.set j ⟨e.key,xv,e.born⟩) c)):=by
  refine⟨(map_put hob).1 nx,fun B w0 ι nt a w hw ha hc=>?_⟩
  obtain⟨E,h1,h2⟩:=hc.obj _ _ hob
  refine⟨_,undef,.inr ⟨?_,rfl⟩,(ren_undef ι).symm,(map_put hob).2 B w0 ι w hc (E.modify j fun y=>{ y with val:=ren ι xv }) (by rw [mod_list _ _ _ _ h2]; exact entR_val ι xv es j e he)⟩
  have hfi:E.findIdx? (fun e=>(e.born:Int)==(b:Int))=some j:=by
   have e1:E=E.toList.toArray:=rfl
   rw [<-hj ι,<-h2]
   exact List.findIdx?_toArray _ E.toList
  simp only [execOp,ho]
  rw [hm ι nt a ha,hsv ι nt a ha,hx ι nt a ha,ren_int]
  simp only [ren,Instr.entryStore,Sem.run_bind,Result.andThen_ok,run_getMap h1,Go.asInt,asIntOf,Sem.run_pure,hfi,run_setMap h1]
 exact key.eff.to h
theorem call_twoG {c:Call} {b:Builtin} {ts:TypeId} {tss:List TypeId} {s x:Operand} (ho:o.op=.call c) (hc:c.callee=.builtin b) (ht:c.argTypes.toList=ts::tss) (hx:c.args.toList=[s,x]) {a:Act} {w:World} {f:Array TypeId->TypeId->Array Value->Sem Value}
  (hb:∀ats ty cs as,builtin b ats ty cs as=(do pure (.value (<-f ats ty as)))):(execOp a.eval o).run P w=((f (ts::tss).toArray o.type #[a.eval s,a.eval x]).run P w).andThen fun v w'=>.ok (.value v) w':=by
 have hargs:c.args.map a.eval=#[a.eval s,a.eval x]:=by rw [map_mk,hx]; rfl
 have hats:c.argTypes=(ts::tss).toArray:=by apply Array.ext'; rw [ht]
 simp only [execOp,ho,resolve,hc,hargs,hats,Sem.run_bind,Sem.run_pure,Result.andThen_ok,invoke,hb]
theorem eraseIdx_entR (ι:En):∀(es:List ME) (j:Nat),(es.map (entR ι)).eraseIdx j=(es.eraseIdx j).map (entR ι)
 | [],j=>by simp
 | e::es,0=>by simp
 | e::es,j+1=>by simp [eraseIdx_entR ι es j]
theorem delete_ok {c:Call} {t kt et:TypeId} {ts:List TypeId} {m i:Operand} (ho:o.op=.call c) (hc:c.callee=.builtin .delete) (ht:c.argTypes.toList=t::ts) (hx:c.args.toList=[m,i]) (hu:P.underlying t=some (.map kt et))
  (h:((evB m).run tm fun m=>(evB i).run tm fun i=>keyChk P kt i (match m with
    | .nilmap=>k undefA hp nx
    | m=>mapK hp m fun id es c=>findE P kt i es 0 (hp.setK id (.map es c) fun hp=>k undefA hp nx) fun j _=>dropE j es fun es=>hp.setK id (.map es c) fun hp=>k undefA hp nx))=.ok):OpTo P o tm hp nx k:=by
 obtain⟨mv,h,hm⟩:=evB_ok h
 obtain⟨iv,h,hi⟩:=evB_ok h
 obtain⟨h,⟨d,hd⟩,hchk⟩:=keyChk_ok h
 have hrun:∀(a:Act) (w:World),(execOp a.eval o).run P w=((Builtin.delete_ (t::ts).toArray o.type #[a.eval m,a.eval i]).run P w).andThen fun v w'=>.ok (.value v) w':=fun a w=>call_twoG ho hc ht hx (fun _ _ _ _=>rfl)
 have big:mapK hp mv (fun id es c=>findE P kt iv es 0 (hp.setK id (.map es c) fun hp=>k undefA hp nx) fun j _=>dropE j es fun es=>hp.setK id (.map es c) fun hp=>k undefA hp nx)=.ok->OpTo P o tm hp nx k:=by
  intro h
  obtain⟨id,es,c,rfl,hob,h⟩:=mapK_ok h
  rcases findE_ok _ _ _ _ h with ⟨h,hf⟩ | ⟨j,e,h,hf⟩
  · rw [Tr.setK_eq] at h
    have key:OWr P o tm hp nx undefA (hp.set id (.map es c)):=by
     refine⟨(map_put hob).1 nx,fun B w0 ι nt a w hw ha hc=>?_⟩
     obtain⟨E,h1,h2⟩:=hc.obj _ _ hob
     have hfind:=find_ok (ι:=ι) (w:=w) hd hf
     refine⟨_,undef,.inl ?_,(ren_undef ι).symm,(map_put hob).2 B w0 ι w hc E h2⟩
     rw [hrun,hm ι nt a ha,hi ι nt a ha]
     simp only [Builtin.delete_,List.getElem?_toArray,List.getElem?_cons_zero,List.getElem?_cons_succ,ren,Sem.run_bind,run_und hu,Result.andThen_ok,run_getMap h1,hchk,h2,hfind,foundV,run_setMap h1,Sem.run_pure]
     rfl
    exact key.eff.to h
  · rw [Nat.zero_add] at h
    obtain⟨h,hlt⟩:=dropE_ok _ h
    rw [Tr.setK_eq] at h
    have key:OWr P o tm hp nx undefA (hp.set id (.map (es.eraseIdx j) c)):=by
     refine⟨(map_put hob).1 nx,fun B w0 ι nt a w hw ha hc=>?_⟩
     obtain⟨E,h1,h2⟩:=hc.obj _ _ hob
     have hfind:=find_ok (ι:=ι) (w:=w) hd hf
     refine⟨_,undef,.inl ?_,(ren_undef ι).symm,(map_put hob).2 B w0 ι w hc (E.eraseIdxIfInBounds j) (by rw [Array.toList_eraseIdxIfInBounds,h2,eraseIdx_entR])⟩
     rw [hrun,hm ι nt a ha,hi ι nt a ha]
     simp only [Builtin.delete_,List.getElem?_toArray,List.getElem?_cons_zero,List.getElem?_cons_succ,ren,Sem.run_bind,run_und hu,Result.andThen_ok,run_getMap h1,hchk,h2,hfind,foundV,Nat.zero_add,run_setMap h1,Sem.run_pure]
     rfl
    exact key.eff.to h
 cases mv with
 | nilmap =>
   have key:OVal P o tm hp undefA:=fun B w0 ι nt a w ha hcc=>by
    rw [hrun,hm ι nt a ha,hi ι nt a ha]
    simp only [Builtin.delete_,List.getElem?_toArray,List.getElem?_cons_zero,List.getElem?_cons_succ,ren,Sem.run_bind,run_und hu,Result.andThen_ok,hchk,Sem.run_pure]
    rfl
   exact (val_to key h).to
 | _=>exact big h
end
end Go.Rex
namespace Go.Rex
open Go.RowKit
section
variable {P:Program} {o:Oper} {tm:Tm} {hp:Tr AO} {nx:Pz} {k:AV->Tr AO->Pz->Rs} {call:CallT}
theorem call_args {c:Call} {b:Builtin} {s x:Operand} (ho:o.op=.call c) (hc:c.callee=.builtin b) (hx:c.args.toList=[s,x]) {a:Act} {w:World} {f:Array TypeId->TypeId->Array Value->Sem Value}
  (hb:∀ats ty cs as,builtin b ats ty cs as=(do pure (.value (<-f ats ty as)))):(execOp a.eval o).run P w=((f c.argTypes o.type #[a.eval s,a.eval x]).run P w).andThen fun v w'=>.ok (.value v) w':=by
 have hargs:c.args.map a.eval=#[a.eval s,a.eval x]:=by rw [map_mk,hx]; rfl
 simp only [execOp,ho,resolve,hc,hargs,Sem.run_bind,Sem.run_pure,Result.andThen_ok,invoke,hb]
theorem minK_ok {mx:Bool} {v y:AV} {kk:AV->Rs} (h:minK mx v y kk=.ok):∃ka a b,v=.int ka a/\y=.int ka b/\kk (.int ka (if (if mx then b > a else b<a) then b else a))=.ok:=by
 obtain⟨ka,a,rfl,g⟩:=asInt_ok h
 obtain⟨kb,b,rfl,g2⟩:=asInt_ok g
 obtain⟨hk,g3⟩:=ifK_ok g2
 obtain rfl:=dec_ok hk
 clear h g g2
 have h:=g3
 clear g3
 refine⟨ka,a,b,rfl,rfl,?_⟩
 cases mx
 · rcases ifK_two h with ⟨hb,h⟩ | ⟨hb,h⟩
   · have hb:b<a:=of_decide_eq_true hb
     simpa [hb] using h
   · have hb:¬b<a:=of_decide_eq_false hb
     simpa [hb] using h
 · rcases ifK_two h with ⟨hb,h⟩ | ⟨hb,h⟩
   · have hb:b > a:=of_decide_eq_true hb
     simpa [hb] using h
   · have hb:¬b > a:=of_decide_eq_false hb
     simpa [hb] using h
theorem min_ok {mx:Bool} {c:Call} {x y:Operand} (ho:o.op=.call c) (hc:c.callee=.builtin (if mx then .max else .min)) (hx:c.args.toList=[x,y]) (h:((evB x).run tm fun a=>(evB y).run tm fun b=>minK mx a b fun v=>k v hp nx)=.ok):ValTo P o tm hp nx k:=by
 obtain⟨v,h,hv⟩:=evB_ok h
 obtain⟨u,h,hu⟩:=evB_ok h
 obtain⟨ka,p,q,rfl,rfl,g⟩:=minK_ok h
 refine val_to (fun B w0 ι nt a w ha hcc=>?_) g
 cases mx with
 | false =>
   rw [call_args ho hc hx (f:=Builtin.min_) (fun _ _ _ _=>rfl),hv ι nt a ha,hu ι nt a ha]
   simp only [Builtin.min_,List.foldlM_cons,List.foldlM_nil,ren,Builtin.min2,Sem.run_bind,Sem.run_pure,Result.andThen_ok,Bool.false_eq_true,if_false]
 | true =>
   rw [call_args ho hc hx (f:=Builtin.max_) (fun _ _ _ _=>rfl),hv ι nt a ha,hu ι nt a ha]
   simp only [Builtin.max_,List.foldlM_cons,List.foldlM_nil,ren,Builtin.max2,Sem.run_bind,Sem.run_pure,Result.andThen_ok,if_true]
theorem freeze_ne (w:World) (a:Addr) (n b:Nat) (h:b≠a.block):(w.freeze a n).heap[b]?=w.heap[b]?:=by
 unfold World.freeze
 split
 · rfl
 · show (w.heap.modify _ _)[b]?=_
   rw [Array.getElem?_modify,if_neg (fun e=>h e.symm)]
theorem freeze_size (w:World) (a:Addr) (n:Nat):(w.freeze a n).heap.size=w.heap.size:=by
 unfold World.freeze
 split
 · rfl
 · simp
theorem freeze_at {w:World} {b:Nat} {C:Array Value} {el:TypeId} {fz:Nat × Nat} (h:w.heap[b]?=some (.cells C el fz)) (hf:unfrozen fz C.size):∃fz',(w.freeze ⟨b,C.size,none⟩ 1).heap[b]?=some (.cells C el fz')/\unfrozen fz' C.size:=by
 obtain⟨lo,hi⟩:=fz
 unfold World.freeze
 rw [if_neg (by decide)]
 refine⟨if lo==hi then (C.size,C.size+1) else (min lo C.size,max hi (C.size+1)),?_,?_⟩
 · show (w.heap.modify _ _)[b]?=_
   rw [Array.getElem?_modify,if_pos rfl,h]
   rfl
 · by_cases he:lo=hi
   · rw [if_pos (by simpa using he)]; exact .inr (Nat.le_refl _)
   · rw [if_neg (by simpa using he)]
     rcases hf with hf | hf
     · exact absurd hf he
     · exact .inr (by simp only at hf ⊢; omega)
theorem convMark_ok {s t e e':TypeId} {x:Operand} (ho:o.op=.convert s t x) (hs:P.underlying s=some (.slice e')) (ht:P.underlying t=some (.slice e)) (he:P.underlying e=some (.int .u8))
  (h:((evB x).run tm fun v=>match v with
   | .slice id off len cap=>ifK (Nat.beq s t) (hp.getK id (.bad 230) fun o=>match o with
     | .arr _ _ _ _=>k (.slice id off len cap) hp nx
     | _=>.bad 231) (.bad 232)
   | _=>.bad 233)=.ok):OpTo P o tm hp nx k:=by
 obtain⟨v,h,hv⟩:=evB_ok h
 cases v with
 | slice id off len cap =>
   obtain⟨hst,h⟩:=ifK_ok h
   have hst:=beq_ok hst
   obtain⟨ob,hob,h⟩:=getK_ok h
   cases ob with
   | arr es n el c =>
     have key:OWr P o tm hp nx (.slice id off len cap) hp:=by
      refine⟨fun hw=>hw,fun B w0 ι nt a w hw ha hc=>?_⟩
      obtain⟨C,fz,h1,h2,h3,h4,h5⟩:=hc.obj _ _ hob
      have hb:=hc.base _ _ hob trivial
      obtain⟨fz',f1,f2⟩:=freeze_at h1 h5
      refine⟨w.freeze ⟨ι.blk id,C.size,none⟩ 1,_,.inl ?_,rfl,?_⟩
      · have hsh:w.shape? (ι.blk id)=some (el,C.size):=by
         unfold World.shape?
         rw [h1]
        have hm:(markStringish ⟨ι.blk id,ι.sh id+off,none⟩).run P w=.ok () (w.freeze ⟨ι.blk id,C.size,none⟩ 1):=by
         simp only [markStringish,Sem.run_bind,run_shape,hsh,Result.andThen_ok,run_freeze]
        simp only [execOp,ho]
        rw [hv ι nt a ha]
        simp only [ren,convert,Sem.run_bind,run_und hs,run_und ht,run_und he,Result.andThen_ok,show (s==t)=true by simp [hst],hm,Sem.run_pure]
      · refine⟨hc.below.trans ⟨?_,?_,?_,by rw [freeze_size]; exact Nat.le_refl _,fun b hb'=>freeze_ne _ _ _ _ (fun e=>hb (by have e:b=ι.blk id:=e; rw [<-e]; exact hb'))⟩,fun b hb'=>by rw [freeze_size]; exact hc.room b hb',fun i p hi=>?_,hc.base,hc.sep,hc.tip⟩
        · unfold World.freeze; split<;>rfl
        · unfold World.freeze; split<;>rfl
        · unfold World.freeze; split<;>rfl
        · by_cases hi':i=id
          · subst hi'
            rw [hob] at hi
            cases hi
            exact⟨C,fz',f1,h2,h3,h4,f2⟩
          · refine (hc.obj i p hi).keep (fun x=>x) fun ho'=>freeze_ne _ _ _ _ (fun e=>?_)
            obtain⟨f,_,g⟩:=hc.sep _ _ _ _ hi' hi hob ho' trivial e
            cases g
     exact key.eff.to h
   | _=>cases h
 | _=>cases h
end
end Go.Rex
namespace Go.Rex
open Go.RowKit
section
variable {P:Program} {o:Oper} {tm:Tm} {hp:Tr AO} {nx:Pz} {k:AV->Tr AO->Pz->Rs} {call:CallT}
theorem andK_ok {a b:Rs} (h:andK a b=.ok):a=.ok/\b=.ok:=by
 cases a with
 | ok=>exact⟨rfl,h⟩
 | bad n=>cases h
theorem selIter_ok {o:AO} {kk:Pz->Nat->List Nat->Nat->Rs} (h:selIter o kk=.ok):∃m s l c,o=.iter m s l c/\kk m s l c=.ok:=by
 cases o with
 | iter m s l c=>exact⟨m,s,l,c,rfl,h⟩
 | _=>cases h
theorem selMap_ok {o:AO} {kk:List ME->Nat->Rs} (h:selMap o kk=.ok):∃es c,o=.map es c/\kk es c=.ok:=by
 cases o with
 | map es c=>exact⟨es,c,rfl,h⟩
 | _=>cases h
theorem inK_iff (b:Nat):∀l,inK b l=l.contains b
 | []=>rfl
 | x::l=>by
   show Bool.rec (motive:=fun _=>Bool) (inK b l) true (Nat.beq x b)=_
   rw [List.contains_cons]
   cases hb:Nat.beq x b with
   | true=>rw [beq_ok hb]; simp
   | false =>
     have:(b==x)=false:=by
      rw [beq_eq_false_iff_ne]
      intro e
      subst e
      rw [Nat.beq_refl] at hb; cases hb
     rw [this]
     simpa using inK_iff b l
theorem oldK_ok {since:Nat}:∀{es:List ME},oldK since es=true->∀e∈es,e.born<since
 | [],_,e,he=>by simp at he
 | x::es,h,e,he=>by
   have h:Bool.rec (motive:=fun _=>Bool) false (oldK since es) (Nat.blt x.born since)=true:=h
   cases hb:Nat.blt x.born since with
   | false=>rw [hb] at h; cases h
   | true =>
     rw [hb] at h
     rcases List.mem_cons.1 he with rfl | he
     · exact blt_ok hb
     · exact oldK_ok h e he
theorem eachLeft_ok {seen:List Nat} {z:Rs} {kk:ME->Rs}:∀{es:List ME} {sm:Bool},eachLeft seen es z kk sm=.ok ->
  (∀e∈es,seen.contains e.born=false->kk e=.ok)/\(sm=false->(∀e∈es,seen.contains e.born=true)->z=.ok)
 | [],sm,h=>⟨fun e he=>by simp at he,fun hs _=>by subst hs; exact h⟩
 | x::es,sm,h=>by
   have h:Bool.rec (motive:=fun _=>Rs) (andK (kk x) (eachLeft seen es z kk true)) (eachLeft seen es z kk sm) (inK x.born seen)=.ok:=h
   cases hb:inK x.born seen with
   | true =>
     rw [hb] at h
     obtain⟨h1,h2⟩:=eachLeft_ok h
     rw [inK_iff] at hb
     refine⟨fun e he hn=>?_,fun hs ha=>h2 hs fun e he=>ha e (List.mem_cons_of_mem _ he)⟩
     rcases List.mem_cons.1 he with rfl | he
     · rw [hb] at hn; cases hn
     · exact h1 e he hn
   | false =>
     rw [hb] at h
     obtain⟨h0,h⟩:=andK_ok h
     obtain⟨h1,h2⟩:=eachLeft_ok h
     rw [inK_iff] at hb
     refine⟨fun e he hn=>?_,fun hs ha=>by rw [ha x (List.mem_cons_self ..)] at hb; cases hb⟩
     rcases List.mem_cons.1 he with rfl | he
     · exact h0
     · exact h1 e he hn
theorem rangeB_ok {t:TypeId} {x:Operand} (ho:o.op=.range t x) (h:(rangeB P t (evB x)).run call tm hp nx k=.ok):OpTo P o tm hp nx k:=by
 unfold rangeB at h
 split at h
 · rename_i kt et hu
   obtain⟨v,h,hv⟩:=evB_ok h
   cases v with
   | map m =>
     have h:hp.getK m (.bad 263) (fun o=>selMap o fun es c=>newObj hp nx (.iter m c [] c) fun id hp nx=>k (.ptr id 0) hp nx)=.ok:=h
     obtain⟨ob,hob,h⟩:=getK_ok h
     obtain⟨es,c,rfl,g⟩:=selMap_ok h
     rw [newObj_eq] at g
     refine (Eff.new (x:=.iter m c [] c) rfl (fun _ _ h=>by cases h) (fun B w0 ι nt a w ha hc hb hs=>?_)).to g
     obtain⟨E,h1,h2⟩:=hc.obj _ _ hob
     refine⟨.mapIter (some (ι.blk m)) c #[] c,?_,?_⟩
     · simp only [execOp,ho,hv ι nt a ha,ren,Instr.range,Sem.run_bind,run_und hu,Result.andThen_ok,run_getMap h1,Sem.run_pure]
       rw [hb,hs]
       rfl
     · exact⟨by rw [hb]; exact heap_alloc_at _ _,hs⟩
   | _=>cases h
 · cases h
theorem nextB_ok {it:Operand} (ho:o.op=.next it false) (h:(nextB (evB it)).run call tm hp nx k=.ok):OpTo P o tm hp nx k:=by
 obtain⟨v,h,hv⟩:=evB_ok h
 obtain⟨id,off,rfl,g⟩:=asPtr_ok h
 obtain⟨h0,g⟩:=ifK_ok g
 have h0:=beq_ok h0
 subst h0
 obtain⟨ob,hob,g⟩:=getK_ok g
 obtain⟨m,since,seen,at',rfl,g1⟩:=selIter_ok g
 obtain⟨ob,hom,g2⟩:=getK_ok g1
 obtain⟨es,c,rfl,g3⟩:=selMap_ok g2
 obtain⟨hq,g4⟩:=ifK_ok g3
 rw [Bool.and_eq_true] at hq
 have hold:=oldK_ok hq.1
 have hsc:=ble_ok hq.2
 obtain⟨hl,hz⟩:=eachLeft_ok g4
 intro B w0 nt a w ι hs G hn
 have hcore:=fun ι' hι=>hs.2 ι' hι
 obtain⟨t1,c1⟩:=hcore ι (Agree.refl _ _)
 obtain⟨i1,i2⟩:=c1.obj _ _ hob
 obtain⟨E,m1,m2⟩:=c1.obj _ _ hom
 have hE:∀ι',Agree nx ι ι'->E.toList=es.map (entR ι'):=fun ι' hι=>by
  obtain⟨E',m1',m2'⟩:=(hcore ι' hι).2.obj _ _ hom
  have hb:=(hι m (hs.1.lt _ _ hom)).1
  rw [hb,m1] at m1'
  cases m1'
  exact m2'
 have hrun:(execOp a.eval o).run P w=((Instr.next (.pointer (some ⟨ι.blk id,0,none⟩)) false o.type).run P w).andThen fun v w=>.ok (.value v) w:=by
  simp only [execOp,ho,hv ι nt a t1,ren,i2,Nat.zero_add,Sem.run_bind,Sem.run_pure]
 have hval:∀ι',Agree nx ι ι'->∀e∈es,ren ι' e.key=ren ι e.key/\ren ι' e.val=ren ι e.val:=by
  intro ι' hι e he
  have h1:=hE ι' hι
  rw [m2] at h1
  have:=List.map_inj_left.1 h1 e he
  simp only [entR,MapEntry.mk.injEq] at this
  exact⟨this.1.symm,this.2.1.symm⟩
 rcases run_next_at (P:=P) w o.type (ι.blk id) (ι.blk m) since at' seen.reverse.toArray E c i1 m1 (fun x hx=>by
   rw [m2] at hx
   obtain⟨e,he,rfl⟩:=List.mem_map.1 hx
   exact hold e he) hsc with ⟨hleft,hr⟩ | ⟨e,he,w1,hw1,hr⟩
 · refine .inl ⟨.tuple #[.bool false],w,.inl (by rw [hrun,hr]; rfl),hn (.tup [.bool false]) hp nx ι _ w (hz rfl fun e he=>?_) hs.1 (Nat.le_refl _) (Agree.refl _ _) fun ι' hι=>⟨(hcore ι' hι).2,by simp [ren,renL]⟩⟩
   have hem:leftOf E seen.reverse.toArray=#[]:=Array.eq_empty_of_size_eq_zero hleft
   unfold leftOf at hem
   rw [Array.filter_eq_empty_iff] at hem
   have:=hem (entR ι e) (by rw [<-Array.mem_toList_iff,m2]; exact List.mem_map.2 ⟨e,he,rfl⟩)
   simpa [entR] using this
 · unfold leftOf at he
   rw [Array.mem_toList_iff,Array.mem_filter] at he
   obtain⟨he1,he2⟩:=he
   rw [<-Array.mem_toList_iff,m2] at he1
   obtain⟨e',he',rfl⟩:=List.mem_map.1 he1
   have hns:seen.contains e'.born=false:=by simpa [entR] using he2
   have hk:=hl e' he' hns
   rw [Tr.setK_eq] at hk
   have hw1h:w1.heap=w.heap:=by rcases hw1 with rfl | rfl<;>rfl
   refine .inl ⟨_,_,.inl (by rw [hrun,hr]; rfl),hn (.tup [.bool true,e'.key,e'.val]) _ nx ι _ _ hk (swap_wf hs.1 hob rfl (fun _ _ h=>by cases h) rfl (fun _ _ h=>by cases h)) (Nat.le_refl _) (Agree.refl _ _) fun ι' hι=>?_⟩
   obtain⟨t2,c2⟩:=hcore ι' hι
   have hbi:=(hι id (hs.1.lt _ _ hob)).1
   have hbm:=(hι m (hs.1.lt _ _ hom)).1
   obtain⟨q1,q2⟩:=hval ι' hι e' he'
   refine⟨?_,by simp only [ren,renL,entR,q1,q2]⟩
   have hblk:=c2.base _ _ hob trivial
   rw [hbi] at hblk
   have hlt:ι.blk id<w.heap.size:=(Array.getElem?_eq_some_iff.1 i1).1
   have hoth:∀b,b≠ι'.blk id->(Go.ChangeMaps.setBlock w1 (ι.blk id) (.mapIter (some (ι.blk m)) since (seen.reverse.toArray.push (entR ι e').born) c)).heap[b]?=w.heap[b]?:=fun b hbne=>by
    show (w1.heap.setIfInBounds _ _)[b]?=_
    rw [hw1h,Array.getElem?_setIfInBounds_ne (fun e=>hbne (by rw [hbi]; exact e.symm))]
   refine swap_core hob rfl (fun _ _ h=>by cases h) rfl (fun _ _ h=>by cases h) c2 ?_ (fun k hk=>by
    show k<(w1.heap.setIfInBounds _ _).size
    rw [hw1h,Array.size_setIfInBounds]
    exact c2.room k hk) hoth ⟨?_,(c2.obj _ _ hob).2⟩
   · refine c2.below.trans ⟨?_,?_,?_,?_,fun b hb'=>hoth b (fun e=>hblk (by rw [<-hbi,<-e]; exact hb'))⟩
     · rcases hw1 with rfl | rfl<;>rfl
     · rcases hw1 with rfl | rfl<;>rfl
     · rcases hw1 with rfl | rfl<;>rfl
     · show w.heap.size<=(w1.heap.setIfInBounds _ _).size
       rw [hw1h,Array.size_setIfInBounds]
       exact Nat.le_refl _
   · show (w1.heap.setIfInBounds _ _)[ι'.blk id]?=_
     rw [hbi,hbm,hw1h]
     simp [hlt,entR]
theorem run_getIter {w:World} {b:Nat} {m:Option Nat} {s:Nat} {l:Array Nat} {c:Nat} (h:w.heap[b]?=some (.mapIter m s l c)):(getObj b).run P w=.ok (.mapIter m s l c) w:=by
 simp [getObj,Sem.run,h]
theorem bornF_ok {b:Nat} {kk:ME->Rs}:∀{es:List ME},bornF b es kk=.ok->∃e,es.find? (fun e=>e.born==b)=some e/\kk e=.ok
 | [],h=>by cases h
 | x::es,h=>by
   have h:ifK (Nat.beq x.born b) (kk x) (bornF b es kk)=.ok:=h
   rw [List.find?_cons]
   rcases ifK_two h with ⟨hb,h⟩ | ⟨hb,h⟩
   · have:=beq_ok hb
     exact⟨x,by rw [this]; simp,h⟩
   · obtain⟨e,h1,h2⟩:=bornF_ok h
     have hne:(x.born==b)=false:=by
      rw [beq_eq_false_iff_ne]
      intro e
      rw [e,Nat.beq_refl] at hb; cases hb
     exact⟨e,by rw [hne]; exact h1,h2⟩
theorem entryAtB_ok {it:Operand} (ho:o.op=.entry it) (h:(entryAtB (evB it)).run call tm hp nx k=.ok):OpTo P o tm hp nx k:=by
 obtain⟨v,h,hv⟩:=evB_ok h
 obtain⟨id,off,rfl,g⟩:=asPtr_ok h
 obtain⟨h0,g⟩:=ifK_ok g
 have h0:=beq_ok h0
 subst h0
 obtain⟨ob,hob,g⟩:=getK_ok g
 obtain⟨m,since,seen,at',rfl,g1⟩:=selIter_ok g
 obtain⟨ob,hom,g2⟩:=getK_ok g1
 obtain⟨es,c,rfl,g3⟩:=selMap_ok g2
 obtain⟨hq,g4⟩:=ifK_ok g3
 have hq:=beq_ok hq
 subst hq
 cases seen with
 | nil=>cases g4
 | cons b seen =>
   obtain⟨e,he,g5⟩:=bornF_ok (kk:=fun e=>k (.tup [e.key,e.val]) hp nx) g4
   refine ValTo.to ⟨_,g5,fun B w0 ι nt a w ha hc=>?_⟩
   obtain⟨i1,i2⟩:=hc.obj _ _ hob
   obtain⟨E,m1,m2⟩:=hc.obj _ _ hom
   have hf:E.find? (fun x=>x.born==b)=some (entR ι e):=by
    rw [<-Array.find?_toList,m2,List.find?_map]
    show (es.find? (fun e=>e.born==b)).map _=_
    rw [he]; rfl
   have hb:(seen.reverse++[b]).toArray.back?=some b:=by simp
   have i1:w.heap[ι.blk id]?=some (.mapIter (some (ι.blk m)) since (seen.reverse++[b]).toArray c):=by rw [i1,List.reverse_cons]
   simp only [execOp,ho,hv ι nt a ha,ren,i2,Nat.zero_add,Instr.entry,Sem.run_bind,run_getIter i1,run_getMap m1,Result.andThen_ok,hb,bne_self_eq_false,Bool.false_eq_true,if_false,hf,Sem.run_pure]
   simp [renL,entR]
end
end Go.Rex
