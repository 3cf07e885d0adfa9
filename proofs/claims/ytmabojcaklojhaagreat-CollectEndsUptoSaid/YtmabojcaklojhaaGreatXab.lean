/- Part Xab of the proof of CollectEnds: no condition. -/
import Derived.Laws.Tables
import Derived.Laws.MakeOwn
import Derived.LoopNIn
import Derived.OrdersIn
import Derived.RangeFuncRecord
import Derived.Scope
import Derived.Maps.Range
import Derived.Test.YtmabojcaklojhaaGreatXaa
set_option linter.unusedSimpArgs false
set_option linter.unusedVariables false
namespace Go.aI
open Go.RowKit
theorem map_mk {α β:Type}(f:α->β)(xs:Array α):xs.map f=(xs.toList.map f).toArray:=by rw[<-Array.toList_map]
theorem kV {P:Program}{t:TypeId}(h:cD P t=true):∃d,P.underlying t=some d:=Option.isSome_iff_exists.1 h
theorem tQ {P:Program}{t:TypeId}(h:ae P t≠0):∃i,P.info? t=some i:=by
 unfold ae at h;cases hi:P.info? t with
 |none=>rw[hi]at h;exact absurd rfl h
 |some i=>exact⟨i,rfl⟩
section
variable {P:Program}{o:Oper}{tm:Tm}{hp:Tr AO}{nx:Pz}{k:AV->Tr AO->Pz->Rs}{call:bP}
theorem bL {v:AV}(hv:gI P o tm hp v)(hk:k v hp nx=.ok):dF P o tm hp nx k:=⟨v,hk,hv⟩
theorem DH {x:Operand}(ho:o.op=.move x∨o.op=.assign x)(h:(cH x).run tm (fun v=>k v hp nx)=.ok):dF P o tm hp nx k:=by
 obtain⟨v,hk,hv⟩:=aM h;refine bL (v:=v) (fun B w0 ι nt a w ha hc=>?_) hk;rcases ho with ho|ho<;>(simp only[execOp,ho];rw[hv ι nt a ha];rfl)
theorem Kz {c x y:Operand}(ho:o.op=.pick c x y)(h:((cH c).run tm fun c=>asBool c fun c=>Bool.rec (motive:=fun _=>Rs) ((cH y).run tm fun v=>k v hp nx) ((cH x).run tm fun v=>k v hp nx) c)=.ok):dF P o tm hp nx k:=by
 obtain⟨cv,h,hc⟩:=aM h;obtain⟨b,rfl,g⟩:=vN h;cases b with
 |true =>
  obtain⟨v,hk,hv⟩:=aM (x:=x) g;refine bL (v:=v) (fun B w0 ι nt a w ha hcc=>?_) hk;simp only[execOp,ho];rw[hc ι nt a ha];simp[ak,Go.asBool,hv ι nt a ha]
 |false =>
  obtain⟨v,hk,hv⟩:=aM (x:=y) g;refine bL (v:=v) (fun B w0 ι nt a w ha hcc=>?_) hk;simp only[execOp,ho];rw[hc ι nt a ha];simp[ak,Go.asBool,hv ι nt a ha]
theorem j0 {t:TypeId}{f off:Nat}{ft:TypeId}(h:fq P t f=some (off,ft)):∃fs fd,P.underlying t=some (.struct fs)/\fs[f]?=some fd/\fd.offset=off/\fd.type=ft:=by
 unfold fq at h;split at h
 ·rename_i fs hu;cases hf:fs[f]? with
  |none=>rw[hf]at h;cases h
  |some fd=>rw[hf]at h;cases h;exact⟨fs,fd,hu,hf,rfl,rfl⟩
 ·cases h
theorem xz {t:TypeId}{x:Operand}{f off:Nat}{ft:TypeId}(ho:o.op=.fieldAddr t x f)(hf:fq P t f=some (off,ft))(hz:Nat.beq (ae P ft) 0=false)
  (h:((cH x).run tm fun v=>jU v fun id oo=>bj (oo+off) fun oo=>k (.ptr id oo) hp nx)=.ok):dF P o tm hp nx k:=by
 obtain⟨v,h,hv⟩:=aM h;obtain⟨id,oo,rfl,g⟩:=gW h;rw[aG]at g;obtain⟨fs,fd,h1,h2,h3,h4⟩:=j0 hf;refine bL (v:=.ptr id (oo+off)) (fun B w0 ι nt a w ha hcc=>?_) g;have hz':=qW hz;obtain⟨i,hi⟩:=tQ hz';simp only[execOp,ho];rw[hv ι nt a ha];simp only[ak,Instr.fieldAt,Sem.run_bind,ay h1,Result.andThen_ok,h2,Instr.sureAddr,Sem.run_pure,fieldPlace];rw[h4,dE hi];simp only[Result.andThen_ok];rw[if_neg hz'];simp only[Sem.run_pure,Result.andThen_ok,gx,h3,zbq]
theorem zO {t:TypeId}{x:Operand}{f off:Nat}{ft:TypeId}(ho:o.op=.field t x f)(hf:fq P t f=some (off,ft)){v:AV}{cs:List AV}(hx:∀ι nt a,bW ι nt tm a->a.eval x=ak ι (.agg cs))
  (hv:∀ι w,(part ft (ao ι cs).toArray off).run P w=.ok (ak ι v) w) (hk:k v hp nx=.ok):dF P o tm hp nx k:=by
 obtain⟨fs,fd,h1,h2,h3,h4⟩:=j0 hf;refine bL (v:=v) (fun B w0 ι nt a w ha hcc=>?_) hk;simp only[execOp,ho];rw[hx ι nt a ha];simp only[ak,Instr.field,Sem.run_bind,ay h1,Result.andThen_ok,h2,Go.asAgg,Sem.run_pure];rw[h4,h3,hv];rfl
theorem tR {t:TypeId}{cs:List AV}{off:Nat}(h:dZ P t=true)(ι:En)(w:World):(part t (ao ι cs).toArray off).run P w=.ok (ak ι (.agg ((cs.drop off).take (ae P t)))) w:=by
 rw[qc h];simp only[ak,vQ,vR]
theorem nk {t:TypeId}{cs:List AV}{off:Nat}{v:AV}(hk:cD P t=true)(h:dZ P t=false)(hv:cs[off]?=some v)(ι:En)(w:World):(part t (ao ι cs).toArray off).run P w=.ok (ak ι v) w:=by
 obtain⟨d,hd⟩:=kV hk;exact g8 hd h (by rw[bu,hv];rfl)
theorem B0 {x:Operand}{i:Nat}(ho:o.op=.extract x i)(h:((cH x).run tm fun v=>match v with
  |.dC vs=>vg i vs (fun v=>k v hp nx)
  |_=>.bad 163)=.ok):dF P o tm hp nx k:=by
 obtain⟨v,h,hv⟩:=aM h;cases v with
 |dC vs =>
  obtain⟨u,hu,h⟩:=nN _ h;refine bL (v:=u) (fun B w0 ι nt a w ha hcc=>?_) h;simp only[execOp,ho];rw[hv ι nt a ha];have:(ao ι vs).toArray[i]?=some (ak ι u):=by rw[zao,bu,hu];rfl
  simp[ak,Instr.extract,this]
 |_=>cases h
theorem zP {fn:Fn}(hfn:G9 fn=true){first captured:Array Operand}(ho:o.op=.makeFunc fn first captured)(h:(zh first.toList tm fun x=>zh captured.toList tm fun y=>k (.func fn x y) hp nx)=.ok):dF P o tm hp nx k:=by
 obtain⟨x,h,hx⟩:=tb _ h;obtain⟨y,h,hy⟩:=tb _ h;refine bL (v:=.func fn x y) (fun B w0 ι nt a w ha hcc=>?_) h;have e1:first.map a.eval=(ao ι x).toArray:=by rw[<-hx ι nt a ha,map_mk]
 have e2:captured.map a.eval=(ao ι y).toArray:=by rw[<-hy ι nt a ha,map_mk]
 simp only[execOp,ho,e1,e2];simp[Instr.makeFunc,ak,zB hfn]
theorem xA {t:TypeId}{x:Operand}{d:TypeDesc}(ho:o.op=.makeInterface t x)(hd:P.underlying t=some d)(hni:∀ms,d≠.interface ms)(h:((cH x).run tm fun v=>k (.iface t v) hp nx)=.ok):dF P o tm hp nx k:=by
 obtain⟨v,h,hv⟩:=aM h;refine bL (v:=.iface t v) (fun B w0 ι nt a w ha hcc=>?_) h;simp only[execOp,ho];rw[hv ι nt a ha];cases d<;>first|exact absurd rfl (hni _)|simp[Instr.makeInterface,ay hd,ak]
theorem FC {op:BinOp}{t:TypeId}{x y:Operand}{u v:AV}(hg:Dt P op t=true)(hn:¬(u=.nilIface/\v=.nilIface))(ι:En)(w:World):(eqGuard op t x y (ak ι u) (ak ι v)).run P w=.ok () w:=by
 unfold Dt at hg;rw[zar]at hg;unfold eqGuard;cases op<;>simp[isEq]at hg ⊢
 all_goals
  cases u<;>cases v<;>simp[ak]at hn ⊢
  all_goals simp[hg]
theorem Hx {op:BinOp}{t yt:TypeId}{x y:Operand}(ho:o.op=.binOp op t x y yt)(hg:Dt P op t=true)(h:((cH x).run tm fun a=>(cH y).run tm fun b=>(Of P op t).run a b fun v=>k v hp nx)=.ok):dF P o tm hp nx k:=by
 obtain⟨u,h,hu⟩:=aM h;obtain⟨v,h,hv⟩:=aM h;obtain⟨⟨r,h,hr⟩,hn⟩:=Kx (Ky h);refine bL (v:=r) (fun B w0 ι nt a w ha hcc=>?_) h;simp only[execOp,ho];rw[hu ι nt a ha,hv ι nt a ha];simp only[Sem.run_bind,FC hg hn ι w,Result.andThen_ok,hr ι w,Sem.run_pure]
theorem KC {v:AV}{c:Value}(h:Hb v=some c)(ι:En):ak ι v=c:=by
 cases v<;>simp[Hb]at h<;>(subst h;simp[ak])
theorem KD {op:UnOp}{t:TypeId}{x:Operand}(ho:o.op=.unOp op t x)(h:((cH x).run tm fun v=>Vf op v fun v=>k v hp nx)=.ok):dF P o tm hp nx k:=by
 obtain⟨v,h,hv⟩:=aM h
 have slow:(match Hb v with
   |some c=>Hc (Op.unary op c) fun v=>k v hp nx
   |none=>.bad 138)=.ok->dF P o tm hp nx k:=by
  intro h;cases hc:Hb v with
  |none=>rw[hc]at h;cases h
  |some c =>
   rw[hc]at h;obtain⟨r,c',hs,hk,hr⟩:=DG h
   have key:gI P o tm hp r:=fun B w0 ι nt a w ha hcc=>by
    simp only[execOp,ho];rw[hv ι nt a ha,KC hc ι,hs,hr ι];rfl
   exact bL key hk
 cases op with
 |not =>
  cases v with
  |bool b =>
   have h:(c7 (!b) fun b=>k (.bool b) hp nx)=.ok:=h;rw[bc]at h
   have key:gI P o tm hp (.bool (!b)):=fun B w0 ι nt a w ha hcc=>by
    simp only[execOp,ho];rw[hv ι nt a ha];simp[ak,Op.unary]
   exact bL key h
  |_=>exact slow h
 |neg =>
  cases v with
  |int kd n =>
   have h:=tK h
   have key:gI P o tm hp (.int kd (kd.wrap (Int.sub 0 n))):=fun B w0 ι nt a w ha hcc=>by
    simp only[execOp,ho];rw[hv ι nt a ha];simp only[ak,Op.unary,Op.intArith];rfl
   exact bL key h
  |_=>exact slow h
 |xor=>cases v<;>exact slow h
 |plus=>cases v<;>exact slow h
end
end Go.aI
namespace Go.aI
open Go.RowKit
section
variable {P:Program}{o:Oper}{tm:Tm}{hp:Tr AO}{nx:Pz}{k:AV->Tr AO->Pz->Rs}{call:bP}
theorem nR {ι:En}{w:World}{id:Pz}{off:Nat}{l:List AV}{n:Nat}(h:pX ι w id off l)(hn:l.length=n):(loadCells ⟨ι.aS id,ι.sh id+off,none⟩ n).run P w=.ok (ao ι l).toArray w:=by
 refine run_loadCells (by rw[aq,hn]) (fun j hj=>?_);rw[aq]at hj;rw[bu,<-h j hj,zbq]
theorem zQ {t:TypeId}{x:Operand}(ho:o.op=.load t x)(ht:dZ P t=true)(h:((cH x).run tm fun v=>jU v fun id off=>kQ hp id off (ae P t) fun cs=>k (.agg cs) hp nx)=.ok):dF P o tm hp nx k:=by
 obtain⟨v,h,hv⟩:=aM h;obtain⟨id,off,rfl,g⟩:=gW h;obtain⟨l,g,hl⟩:=lP g;obtain⟨d,hd⟩:=p9 ht
 have key:gI P o tm hp (.agg l):=fun B w0 ι nt a w ha hc=>by
  obtain⟨h1,h2⟩:=hl B w0 ι w hc;simp only[execOp,ho];rw[hv ι nt a ha];simp only[ak,Instr.loadAt,Instr.sureAddr,loadVar,Sem.run_bind,Sem.run_pure,Result.andThen_ok,iK hd,ht,if_true,gY hd];rw[nR h2 h1];simp
 exact bL key g
theorem zR {t:TypeId}{x:Operand}(ho:o.op=.load t x)(hk:cD P t=true)(ht:dZ P t=false)(h:((cH x).run tm fun v=>jU v fun id off=>pN hp id off fun v=>k v hp nx)=.ok):dF P o tm hp nx k:=by
 obtain⟨v,h,hv⟩:=aM h;obtain⟨id,off,rfl,g⟩:=gW h;obtain⟨u,g,hu⟩:=rW g;obtain⟨d,hd⟩:=kV hk
 have key:gI P o tm hp u:=fun B w0 ι nt a w ha hc=>by
  simp only[execOp,ho];rw[hv ι nt a ha];simp only[ak,Instr.loadAt,Instr.sureAddr,loadVar,Sem.run_bind,Sem.run_pure,Result.andThen_ok,iK hd,ht,zag,if_false];rw[gy (hu B w0 ι w hc)];simp
 exact bL key g
theorem Hy {t:TypeId}{x y:Operand}(ho:o.op=.store t x y)(h:((cH x).run tm fun p=>(cH y).run tm fun v=>jU p fun id off =>
      bV (Nat.beq v.cells.length (ae P t)) (jD hp id off v.cells fun hp=>k aE hp nx) (.bad 135))=.ok) (hi:∃i,P.info? t=some i):jS P o tm hp nx k:=by
 obtain⟨p,h,hp'⟩:=aM h;obtain⟨v,h,hv⟩:=aM h;obtain⟨id,off,rfl,g⟩:=gW h;obtain⟨hl,g⟩:=aJ g;obtain⟨hp1,g,hf,hput⟩:=kI g;have hl:=ai hl;obtain⟨i,hi⟩:=hi
 have key:FA P o tm hp nx aE hp1:=by
  refine⟨hput.1 nx,fun B w0 ι nt a w hw ha hc=>?_⟩;obtain⟨hc',hcan⟩:=hput.2 B w0 ι w nx hw hc;refine⟨_,undef,.inr ⟨?_,rfl⟩,(du ι).symm,hc'⟩;simp only[execOp,ho];rw[hp' ι nt a ha,hv ι nt a ha];simp only[ak,Instr.storeAt,Instr.sureAddr,storeVar,Sem.run_bind,Sem.run_pure,Result.andThen_ok,dE hi];rw[bZ,if_neg (by simp[aq,hl])];rw[gZ _ _ _ 0 w (jw ι _ hf) (by rw[zbu,aq];exact hcan)];simp
 exact (key.Fz).to g
theorem cJ {t:TypeId}{z:AV}(h:zeroOf P t=some z):∃i zv,P.info? t=some i/\i.zero=some zv/\il 8 zv=some z/\∀ι w,(zeroValue t).run P w=.ok (ak ι z) w:=by
 unfold zeroOf at h;cases hi:P.info? t with
 |none=>rw[hi]at h;cases h
 |some i =>
  rw[hi]at h;cases hz:i.zero with
  |none=>simp only[hz]at h;cases h
  |some zv =>
   simp only[hz]at h;refine⟨i,zv,rfl,hz,h,fun ι w=>?_⟩;simp only[zeroValue,Sem.run_bind,nP hi,Result.andThen_ok,hz];rw[eR 8 zv z h ι];rfl
theorem Hz {e:TypeId}{z:AV}(ho:o.op=.alloc e)(hz:zeroOf P e=some z)(h:(bj z.cells.length fun es=>lE hp nx es 1 e (one z.cells) fun id hp nx=>k (.ptr id 0) hp nx)=.ok):sa P o tm hp nx k:=by
 rw[aG,nQ]at h;obtain⟨i,zv,h1,h2,h3,h4⟩:=cJ hz;refine⟨_,.arr z.cells.length 1 e (one z.cells),h,rfl,(fun _ _ h=>by cases h),(fun ι nt a ha hs=>⟨_,fun w hb=>?_,fun hp' w' hy=>tP hy hs⟩)⟩;simp only[execOp,ho,Instr.alloc,Sem.run_bind,h4 ι,Result.andThen_ok,newVar,newRow,run_newObj,Sem.run_pure,ak,hb,hs,bZ];rfl
theorem Ou {e:TypeId}{x:Operand}(ho:o.op=.box e x)(h:((cH x).run tm fun v=>bj v.cells.length fun es=>lE hp nx es 1 e (one v.cells) fun id hp nx=>k (.ptr id 0) hp nx)=.ok):sa P o tm hp nx k:=by
 obtain⟨v,h,hv⟩:=aM h;rw[aG,nQ]at h;refine⟨_,.arr v.cells.length 1 e (one v.cells),h,rfl,(fun _ _ h=>by cases h),(fun ι nt a ha hs=>⟨_,fun w hb=>?_,fun hp' w' hy=>tP hy hs⟩)⟩;simp only[execOp,ho];rw[hv ι nt a ha];simp only[Instr.box,Sem.run_bind,Result.andThen_ok,newVar,newRow,run_newObj,Sem.run_pure,ak,hb,hs,bZ];rfl
theorem B1 {t:TypeId}{r:Option Operand}(ho:o.op=.makeMap t r)(hr:∀ι nt a w,bW ι nt tm a->(Instr.makeMap t (r.map a.eval)).run P w=.ok (.map (some w.heap.size)) (w.alloc (.map #[] 0)))(h:newObj hp nx (.map [] 0) (fun id hp nx=>k (.map id) hp nx)=.ok):sa P o tm hp nx k:=by
 rw[cW]at h;refine⟨_,.map [] 0,h,rfl,(fun _ _ h=>by cases h),(fun ι nt a ha hs=>⟨.map #[] 0,fun w hb=>?_,fun hp' w' hy=>⟨#[],hy,rfl⟩⟩)⟩;simp only[execOp,ho,Sem.run_bind,hr ι nt a w ha,Result.andThen_ok,Sem.run_pure,ak,hb]
end
end Go.aI
namespace Go.aI
open Go.RowKit
section
variable {P:Program}{o:Oper}{tm:Tm}{hp:Tr AO}{nx:Pz}{k:AV->Tr AO->Pz->Rs}{call:bP}
theorem er (ι:En)(kd:IntKind)(n:Nat):ak ι (.int kd (.ofNat n))=.int kd (n:Int):=by simp[ak]
theorem qY {P:Program}{w:World}{t e:TypeId}{kd:IntKind}{i len cap:Nat}{b o:Nat}(hu:P.underlying t=some (.slice e))(hi:∃j,P.info? e=some j)(h:i<len) :
  (Instr.indexAt t (.slice (some ⟨b,o,none⟩) len cap) (.int kd (i:Int))).run P w=.ok (.pointer (some ⟨b,o+i*ae P e,none⟩)) w:=by
 obtain⟨j,hj⟩:=hi;simp only[Instr.indexAt,asIntOf,Sem.run_bind,Sem.run_pure,Result.andThen_ok,ay hu];cases hl:decide (len<=1)
 all_goals
  simp only[hl,Bool.false_and,Bool.true_and,Sem.run_bind,Sem.run_pure,Result.andThen_ok,ay hu,Sem.run_ite,zag,if_false];rw[if_pos (by omega)];simp only[Sem.run_bind,dE hj,Result.andThen_ok,Sem.run_pure,zcy,gx]
theorem vV {P:Program}{w:World}{t e:TypeId}{kd:IntKind}{i len:Nat}{b o:Nat}(hu:P.underlying t=some (.array len e))(hi:∃j,P.info? e=some j)(h:i<len) :
  (Instr.indexAt t (.pointer (some ⟨b,o,none⟩)) (.int kd (i:Int))).run P w=.ok (.pointer (some ⟨b,o+i*ae P e,none⟩)) w:=by
 obtain⟨j,hj⟩:=hi;simp only[Instr.indexAt,asIntOf,Sem.run_bind,Sem.run_pure,Result.andThen_ok,ay hu,Instr.sureAddr];cases hl:decide (len<=1)
 all_goals
  simp only[hl,Bool.false_and,Bool.true_and,Sem.run_bind,Sem.run_pure,Result.andThen_ok,ay hu,Sem.run_ite,zag,if_false];rw[if_pos (by omega)];simp only[Sem.run_bind,dE hj,Result.andThen_ok,Sem.run_pure,zcy,gx]
theorem vl {t e:TypeId}{x i:Operand}(ho:o.op=.indexAddr t x i)(hu:P.underlying t=some (.slice e))(hi:∃j,P.info? e=some j)(h:((cH x).run tm fun v=>(cH i).run tm fun i=>asNat i fun i=>G7 v (.bad 151) (.bad 151)
        (fun id off len _=>bV (Nat.blt i len) (bj (off+i*ae P e) fun o=>k (.ptr id o) hp nx) (.bad 149))
        (fun id off len _=>bV (Nat.blt i len) (bj (off+i*ae P e) fun o=>k (.ptr id o) hp nx) (.bad 150)))=.ok):dF P o tm hp nx k:=by
 obtain⟨v,h,hv⟩:=aM h;obtain⟨iv,h,hiv⟩:=aM h;obtain⟨kd,n,rfl,g⟩:=jG h;cases v with
 |slice id off len cap =>
  obtain⟨hlt,g⟩:=aJ g;rw[aG]at g
  have key:gI P o tm hp (.ptr id (off+n*ae P e)):=fun B w0 ι nt a w ha hc=>by
   simp only[execOp,ho];rw[hv ι nt a ha,hiv ι nt a ha,er];simp only[ak,Sem.run_bind];rw[qY hu hi (av hlt)];simp[zbq]
  exact bL key g
 |bt id off len skip =>
  obtain⟨hlt,g⟩:=aJ g;rw[aG]at g
  have key:gI P o tm hp (.ptr id (off+n*ae P e)):=fun B w0 ι nt a w ha hc=>by
   simp only[execOp,ho];rw[hv ι nt a ha,hiv ι nt a ha,er];simp only[ak,Sem.run_bind];rw[qY hu hi (av hlt)];simp[zbq]
  exact bL key g
 |_=>cases g
theorem zU {t e:TypeId}{m:Nat}{x i:Operand}(ho:o.op=.indexAddr t x i)(hu:P.underlying t=some (.array m e))(hi:∃j,P.info? e=some j)(h:((cH x).run tm fun v=>(cH i).run tm fun i=>asNat i fun i=>jU v fun id off =>
        bV (Nat.blt i m) (bj (off+i*ae P e) fun o=>k (.ptr id o) hp nx) (.bad 152))=.ok):dF P o tm hp nx k:=by
 obtain⟨v,h,hv⟩:=aM h;obtain⟨iv,h,hiv⟩:=aM h;obtain⟨kd,n,rfl,g⟩:=jG h;obtain⟨id,off,rfl,g⟩:=gW g;obtain⟨hlt,g⟩:=aJ g;rw[aG]at g
 have key:gI P o tm hp (.ptr id (off+n*ae P e)):=fun B w0 ι nt a w ha hc=>by
  simp only[execOp,ho];rw[hv ι nt a ha,hiv ι nt a ha,er];simp only[ak,Sem.run_bind];rw[vV hu hi (av hlt)];simp[zbq]
 exact bL key g
theorem zV {t:TypeId}{x i:Operand}(ho:o.op=.index t x i)(hu:P.underlying t=some .string)(h:((cH x).run tm fun v=>(cH i).run tm fun i=>asNat i fun i=>match v with
      |.str l n=>bV (Nat.blt i l) (bj (Nat.mod (Nat.shiftRight n (Nat.mul 8 (Nat.sub l (Nat.succ i)))) 256) fun b=>k (.int .u8 (.ofNat b)) hp nx) (.bad 154)
      |_=>.bad 155)=.ok):dF P o tm hp nx k:=by
 obtain⟨v,h,hv⟩:=aM h;obtain⟨iv,h,hiv⟩:=aM h;obtain⟨kd,j,rfl,g⟩:=jG h;cases v with
 |str l n =>
  obtain⟨hlt,g⟩:=aJ g;have hlt:=av hlt;rw[aG]at g
  have hsh:Nat.shiftRight n (Nat.mul 8 (Nat.sub l (Nat.succ j)))=Nat.div n (lG (Nat.sub l (j+1))):=by
   rw[js,show Nat.shiftRight n (Nat.mul 8 (Nat.sub l (Nat.succ j)))=n >>> (8*(l-(j+1)))from rfl,Nat.shiftRight_eq_div_pow,Nat.pow_mul];rfl
  rw[hsh]at g
  have key:gI P o tm hp (.int .u8 (.ofNat (Nat.mod (Nat.div n (lG (Nat.sub l (j+1)))) 256))):=fun B w0 ι nt a w ha hc=>by
   simp only[execOp,ho];rw[hv ι nt a ha,hiv ι nt a ha,er,er];simp only[ak,Instr.index,asIntOf,Sem.run_bind,Sem.run_pure,Result.andThen_ok,ay hu]
   have hget:(ByteArray.mk (bytesOf l n).toArray)[j]?=some (UInt8.ofNat (n/256 ^ (l-(j+1))%256)):=by
    have:=nb l n j hlt;have hsz:j<(ByteArray.mk (bytesOf l n).toArray).size:=by show j<(bytesOf l n).toArray.size;simp[aD,hlt]
    rw[getElem?_pos _ j hsz];have hsz':j<(bytesOf l n).length:=by rw[aD];exact hlt
    rw[zap hsz']at this;rw[<-Option.some.inj this];rfl
   rw[if_pos (by omega)];simp only[zcy,hget,Sem.run_pure,Result.andThen_ok];rw[js];congr 4;simp only[zdm];show n/256 ^ (l-(j+1))%256%2 ^ 8=n/256 ^ (l-(j+1))%256;omega
  exact bL key g
 |_=>cases g
theorem KE {t:TypeId}{v:AV}{kk:Nat->Rs}(h:(Kn P t).run hp v kk=.ok):Km P t hp v kk=.ok:=by
 unfold Kn at h;unfold Km;split at h
 ·rename_i hu;rw[hu];cases v<;>first|exact h|cases h
 ·rename_i hu;rw[hu];cases v<;>first|exact h|cases h
 ·exact h
theorem Ov {ats:Array TypeId}{t:TypeId}{ats':List TypeId}{x:Operand}{c:Call}(ho:o.op=.call c)(hc:c.callee=.builtin .len)(hats:c.argTypes.toList=t::ats')(hx:c.args.toList=[x])
  (h:((cH x).run tm fun v=>(Kn P t).run hp v fun n=>k (.int .i64 (.ofNat n)) hp nx)=.ok):dF P o tm hp nx k:=by
 obtain⟨v,h,hv⟩:=aM h
 replace h:=KE h
 have hl:∃n,k (.int .i64 (.ofNat n)) hp nx=.ok/\∀B w0 ι w,Core B w0 ι hp w->(Builtin.len_ c.argTypes o.type #[ak ι v]).run P w=.ok (.int .i64 (n:Int)) w:=by
  have ht:c.argTypes[0]?=some t:=by rw[<-zcn,hats];rfl
  have go:∀{u:TypeDesc},P.underlying t=some u->∀(ι:En) (w:World),(Builtin.len_ c.argTypes o.type #[ak ι v]).run P w=(match u,ak ι v with
    |.string,.string s=>(pure (goInt s.size):Sem Value)
    |.array n _,_=>pure (goInt n)
    |.pointer arr,_=>do
     let .array n _ <-underlying arr|stuck "len: pointer to array expected"
     pure (goInt n)
    |.slice _,.slice _ n _=>pure (goInt n)
    |.map _ _,.map none|.chan _ _,.chan none=>pure (goInt 0)
    |.map _ _,.map (some r)=>do
     let .map entries _ <-getObj r|stuck "len: map expected"
     pure (goInt entries.size)
    |.chan _ _,.chan (some r)=>do
     let .chan _ buf _ _ _ timer <-getObj r|stuck "len: channel expected"
     pure (goInt (if timer then 0 else buf.size))
    |_,_=>stuck "len: string, array, pointer to array, slice, map or channel expected").run P w:=by
   intro u hu ι w;simp only[Builtin.len_,ht];simp only[zao,zbf,Sem.run_bind,ay hu,Result.andThen_ok];rfl
  unfold Km at h;split at h
  case h_1 l n hu=>exact⟨l,h,fun B w0 ι w hc=>by rw[go hu];simp only[ak,Sem.run_pure,goInt];rw[show (ByteArray.mk (bytesOf l n).toArray).size=l from by show (bytesOf l n).toArray.size=l;simp[aD]]⟩
  case h_2 n e hu=>exact⟨n,h,fun B w0 ι w hc=>by rw[go hu];simp only[Sem.run_pure,goInt]⟩
  case h_3 hu=>exact⟨_,h,fun B w0 ι w hc=>by rw[go hu];simp only[ak,Sem.run_pure,goInt]⟩
  case h_4 hu=>exact⟨_,h,fun B w0 ι w hc=>by rw[go hu];simp only[ak,Sem.run_pure,goInt]⟩
  case h_5 hu=>exact⟨0,h,fun B w0 ι w hc=>by rw[go hu];simp only[ak,Sem.run_pure,goInt]<;>rfl⟩
  case h_6 hu=>exact⟨0,h,fun B w0 ι w hc=>by rw[go hu];simp only[ak,Sem.run_pure,goInt]<;>rfl⟩
  case h_7 id hu =>
   obtain⟨ob,hob,h⟩:=dt h;cases ob with
   |map es cl =>
    refine⟨es.length,h,fun B w0 ι w hc=>?_⟩;obtain⟨E,h1,h2⟩:=hc.obj _ _ hob;rw[go hu];simp only[ak,Sem.run_bind,getObj,Sem.run,h1,Result.andThen_ok,goInt,Sem.run_pure];have:E.size=es.length:=by rw[<-zdj,h2];simp
    rw[this]
   |_=>cases h
  case h_8=>cases h
 obtain⟨n,hk,hr⟩:=hl
 have key:gI P o tm hp (.int .i64 (.ofNat n)):=fun B w0 ι nt a w ha hcc=>by
  have hargs:c.args.map a.eval=#[ak ι v]:=by rw[map_mk,hx];simp[hv ι nt a ha]
  simp only[execOp,ho,resolve,hc,hargs,Sem.run_bind,Sem.run_pure,Result.andThen_ok,invoke,builtin];rw[hr B w0 ι w hcc];simp[ak]
 exact bL key hk
end
end Go.aI
namespace Go.aI
open Go.RowKit
theorem qZ (off:Nat):∀(l:List Value)(n:Nat)(C:Array Value),(l.zipIdx n).foldl (fun cs x=>cs.setIfInBounds (off+x.2) x.1) C=ei C (off+n) l
 | [],n,C=>rfl
 |v::l,n,C=>by
  simp only[List.zipIdx_cons,List.foldl_cons,ei];rw[qZ off l (n+1)];rfl
theorem qf (ι:En)(cs vs:List AV)(off:Nat)(h:off+vs.length<=cs.length):ei (ao ι cs).toArray off (ao ι vs)=(ao ι (fh off vs cs)).toArray:=by
 apply Array.ext_getElem?;intro i;rw[dM _ _ _ _ (by simp[aq];exact h)];rw[zao,zao,bu,bu,bu,oM _ _ _ h,aq];split<;>rfl
section
variable {P:Program}{o:Oper}{tm:Tm}{hp:Tr AO}{nx:Pz}{k:AV->Tr AO->Pz->Rs}{call:bP}
theorem qg (place:Nat->Option (Nat×Nat)):∀(ps:List (Nat×Operand))(cs:List AV)(k:List AV->Rs),rU place ps tm cs k=.ok ->
  ∃cs',k cs'=.ok/\cs'.length=cs.length/\∀ι nt a,bW ι nt tm a->Instr.fill place (ao ι cs).toArray (ps.map fun p=>(p.1,a.eval p.2))=some (ao ι cs').toArray
 | [],cs,k,h=>⟨cs,h,rfl,fun ι nt a ha=>rfl⟩
 |p::ps,cs,k,h=>by
  have h:(match place p.1 with
   |none=>Rs.bad 40
   |some (off,size)=>(cH p.2).run tm fun v=>bV (Nat.beq v.cells.length size) (pL off v.cells cs fun cs=>rU place ps tm cs k) (.bad 41))=.ok:=h
  cases hp:place p.1 with
  |none=>rw[hp]at h;cases h
  |some q =>
   obtain⟨off,size⟩:=q;rw[hp]at h;obtain⟨v,h,hv⟩:=aM h;obtain⟨hsz,h⟩:=aJ h;have hsz:=ai hsz;obtain⟨hr,h⟩:=oK _ h;obtain⟨cs',hk,hlen,hf⟩:=qg place ps _ _ h;refine⟨cs',hk,by rw[hlen,om _ _ _ hr],fun ι nt a ha=>?_⟩;simp only[zal,Instr.fill,hp];rw[hv ι nt a ha,bZ];have e1:(ao ι v.cells).toArray.size=size:=by simp[aq,hsz]
   have e2:(ao ι cs).toArray.size=cs.length:=by simp[aq]
   rw[if_neg (by rw[e1,e2];simp;omega)];rw[<-zdd,Array.toList_zipIdx,qZ off,zbu,qf ι _ _ _ hr];exact hf ι nt a ha
theorem fM (ps:Array (Nat×Operand))(a:Act):(ps.map fun x=>(x.1,a.eval x.2)).toList=ps.toList.map fun p=>(p.1,a.eval p.2):=by simp
theorem FD {t:TypeId}{z:AV}{fs:Array Field}{ps:Array (Nat×Operand)}{places:List (Nat×Nat)}(ho:o.op=.build t ps)(hz:zeroOf P t=some z)(hu:P.underlying t=some (.struct fs))
  (hp':fs.toList.mapM (fun f=>(P.info? f.type).map fun i=>(f.offset,i.size))=some places) (h:(rU (fun i=>places[i]?) (ps.toList) tm z.cells fun cs=>k (.agg cs) hp nx)=.ok):dF P o tm hp nx k:=by
 obtain⟨cs,h,hlen,hf⟩:=qg _ _ _ _ h;obtain⟨i,zv,h1,h2,h3,h4⟩:=cJ hz
 have key:gI P o tm hp (.agg cs):=fun B w0 ι nt a w ha hc=>by
  have hz':zv.cells=(ao ι z.cells).toArray:=by rw[<-eR 8 zv z h3 ι,bZ]
  have hb:P.built t (ps.map fun x=>(x.1,a.eval x.2)).toList=some (ao ι cs).toArray:=by
   unfold Program.built;simp only[h1,hu,h2,hp'];rw[fM,hz',<-hf ι nt a ha];congr 1
   funext i
   simp
  simp only[execOp,ho,Sem.run_bind];rw[show (ps.map fun x=>match x with|(i,x)=>(i,a.eval x))=ps.map fun x=>(x.1,a.eval x.2)from rfl,run_build w t _ _ hb];simp[ak]
 exact bL key h
theorem FE {t e:TypeId}{m:Nat}{z:AV}{ps:Array (Nat×Operand)}{ie:TypeInfo}(ho:o.op=.build t ps)(hz:zeroOf P t=some z)(hu:P.underlying t=some (.array m e))(hi:P.info? e=some ie)
  (h:(rU (fun i=>some (i*ae P e,ae P e)) (ps.toList) tm z.cells fun cs=>k (.agg cs) hp nx)=.ok):dF P o tm hp nx k:=by
 obtain⟨cs,h,hlen,hf⟩:=qg _ _ _ _ h;obtain⟨i,zv,h1,h2,h3,h4⟩:=cJ hz;have hs:ae P e=ie.size:=by unfold ae;rw[hi];rfl
 have key:gI P o tm hp (.agg cs):=fun B w0 ι nt a w ha hc=>by
  have hz':zv.cells=(ao ι z.cells).toArray:=by rw[<-eR 8 zv z h3 ι,bZ]
  have hb:P.built t (ps.map fun x=>(x.1,a.eval x.2)).toList=some (ao ι cs).toArray:=by
   unfold Program.built;simp only[h1,hu,h2,hi];rw[fM,hz',<-hs];exact hf ι nt a ha
  simp only[execOp,ho,Sem.run_bind];rw[show (ps.map fun x=>match x with|(i,x)=>(i,a.eval x))=ps.map fun x=>(x.1,a.eval x.2)from rfl,run_build w t _ _ hb];simp[ak]
 exact bL key h
theorem fN (l:List AV):∀n,(fS n l).length=n*l.length
 |0=>by show ([]:List AV).length=_;simp
 |n+1=>by show (l++fS n l).length=_;rw[zak,fN l n,zax];omega
theorem tS (l:List AV)(hl:0<l.length):∀n i,i<n*l.length->(fS n l)[i]?=l[i%l.length]?
 |0,i,h=>by omega
 |n+1,i,h=>by
  show (l++fS n l)[i]?=_;by_cases hi:i<l.length
  ·rw[zau hi,Nat.mod_eq_of_lt hi]
  ·rw[zax]at h;rw[zay (by omega),tS l hl n _ (by omega)];congr 1;exact (Nat.mod_eq_sub_mod (by omega)).symm
theorem qh (ι:En)(l:List AV)(hl:0<l.length)(n:Nat):(Array.range (n*l.length)).map ((ao ι l).toArray[·%(ao ι l).toArray.size]!)=(ao ι (fS n l)).toArray:=by
 apply Array.ext_getElem?;intro i;have e0:(ao ι (fS n l)).toArray[i]?=((fS n l)[i]?).map (ak ι):=by rw[zao,bu]
 rw[Array.getElem?_map,e0];by_cases hi:i<n*l.length
 ·rw[tS l hl n i hi];simp only[Array.getElem?_range,hi,if_true,zbk];have hm:i%l.length<l.length:=Nat.mod_lt _ hl;have hs:(ao ι l).toArray.size=l.length:=by simp[aq]
  rw[hs];rw[zap hm];simp only[zbk,Option.some.injEq];rw[getElem!_pos _ _ (by rw[hs];exact hm)];have:(ao ι l)[i%l.length]?=some (ak ι (l[i%l.length])):=by rw[bu,zap hm];rfl
  rw[List.getElem_toArray];rw[zap (by rw[aq];exact hm)]at this;exact Option.some.inj this
 ·rw[zbr (by rw[fN];omega)];simp[hi]
noncomputable def chunk (sz:Nat):Nat->List AV->Nat->Tr (List AV)->Tr (List AV)
 |0,_,_,c=>c
 |n+1,cs,q,c=>chunk sz n (cs.drop sz) (q+1) (c.set (aX q) (cs.take sz))
end
end Go.aI
namespace Go.aI
open Go.RowKit
theorem vW (sz:Nat):∀(n:Nat)(cs:List AV)(q:Nat)(c:Tr (List AV))(k:Tr (List AV)->Rs),xg sz n cs q c k=.ok->n*sz<=cs.length/\k (chunk sz n cs q c)=.ok
 |0,cs,q,c,k,h=>⟨by omega,h⟩
 |n+1,cs,q,c,k,h=>by
  obtain⟨h1,h⟩:=mU sz (k:=fun l=>pM sz cs fun r=>c.c9 (aX q) l fun c=>bj (q+1) fun q=>xg sz n r q c k) h;obtain⟨_,h⟩:=mX sz h;rw[Tr.cz,aG]at h;obtain⟨h2,h⟩:=vW sz n _ _ _ k h;rw[zas]at h2;exact⟨by rw[zax];omega,h⟩
theorem vX (sz:Nat):∀(n:Nat)(cs:List AV)(q:Nat)(c:Tr (List AV))(i:Nat),(chunk sz n cs q c).get (aX i)=if q<=i/\i<q+n then some ((cs.drop ((i-q)*sz)).take sz)else c.get (aX i)
 |0,cs,q,c,i=>by simp only[chunk];rw[if_neg (by omega)]
 |n+1,cs,q,c,i=>by
  simp only[chunk];rw[vX sz n];by_cases h:q+1<=i/\i<q+1+n
  ·rw[if_pos h,if_pos (by omega),zcq];have:i-q=(i-(q+1))+1:=by omega
   rw[this,zax];congr 3;omega
  ·rw[if_neg h];by_cases h2:i=q
   ·subst h2;rw[Tr.br,if_pos (by omega),zdr,zbw,zc]
   ·rw[Tr.cI (mR h2),if_neg (by omega)]
theorem vY {ι:En}{hp:Tr AO}{w:World}{nx:Pz}{cs:List AV}{n sz:Nat}{el:TypeId}{c:Tr (List AV)}(hb:w.heap[ι.aS nx]?=some (.cells (ao ι cs).toArray el (0,0)))(hs:ι.sh nx=0)(hlen:cs.length=n*sz)
  (hc:∀q,q<n->c.get (aX q)=some ((cs.drop (q*sz)).take sz)):ji ι hp w nx (.arr sz n el c):=by
 refine⟨(ao ι cs).toArray,(0,0),hb,hs,by simp[aq,hlen],?_,Or.inl rfl⟩;intro q hq;have hm:=zae sz (zcd hq);rw[zax]at hm;refine⟨_,hc q hq,by rw[zaf,zas];omega,fun r hr=>?_⟩;rw[zaq,zao,bu,zci,if_pos hr,zbb]
section
variable {P:Program}{o:Oper}{tm:Tm}{hp:Tr AO}{nx:Pz}{k:AV->Tr AO->Pz->Rs}{call:bP}
theorem vn {t e:TypeId}{len:Nat}{z:AV}{ps:Array (Nat×Operand)}(ho:o.op=.buildSlice t len ps)(hu:P.underlying t=some (.slice e))(hz:zeroOf P e=some z)
  (hg:(Nat.ble len 10000&&(Nat.ble (ae P e) 1000&&(Nat.beq z.cells.length (ae P e)&&Nat.blt 0 (ae P e))))=true)
  (h:(rU (fun i=>some (i*ae P e,ae P e)) (ps.toList) tm (fS len z.cells) fun cs=>xg (ae P e) len cs 0 .e fun c =>
          lE hp nx (ae P e) len e c fun id hp nx=>k (.slice id 0 len len) hp nx)=.ok):sa P o tm hp nx k:=by
 obtain⟨cs,h,hlen,hf⟩:=qg _ _ _ _ h;obtain⟨_,h⟩:=vW _ _ _ _ _ _ h;rw[nQ]at h;simp only[za]at hg;obtain⟨g1,g2,g3,g4⟩:=hg;have g1:=aK g1;have g2:=aK g2;have g3:=ai g3;have g4:=av g4;obtain⟨i,zv,h1,h2,h3,h4⟩:=cJ hz;rw[fN,g3]at hlen;have hmul:len*ae P e<=10000*1000:=zeb g1 g2;refine⟨_,.arr (ae P e) len e (chunk (ae P e) len cs 0 .e),h,rfl,(fun _ _ h=>by cases h),(fun ι nt a ha hs=>⟨_,fun w hb=>?_,fun hp' w' hy=>vY hy hs hlen (fun q hq=>by rw[vX,if_pos (by omega),zel])⟩)⟩;have hz':zv.cells=(ao ι z.cells).toArray:=by rw[<-eR 8 zv z h3 ι,bZ]
 have hfl:=hf ι nt a ha;simp only[execOp,ho,Instr.buildSlice,Sem.run_bind,ay hu,Result.andThen_ok,dE h1];rw[show (ps.map fun x=>match x with|(i,x)=>(i,a.eval x))=ps.map fun x=>(x.1,a.eval x.2)from rfl];simp only[Sem.run_ite];rw[if_neg (by simp;omega)];by_cases h0:len*ae P e=0
 ·have hl0:len=0:=by rcases Nat.mul_eq_zero.1 h0 with h|h<;>omega
  subst hl0;have hfl0:Instr.fill (fun i=>some (i*ae P e,ae P e)) #[] (ps.map fun x=>(x.1,a.eval x.2)).toList=some (ao ι cs).toArray:=by rw[fM];exact hfl
  simp only[zbw,if_true,Sem.run_bind,Sem.run_pure,Result.andThen_ok];rw[show (Array.range 0).map ((#[]:Array Value)[·%(#[]:Array Value).size]!)=#[] by simp];rw[hfl0];simp only[Sem.run_bind,newRow,run_newObj,Sem.run_pure,Result.andThen_ok,ak,hb,hs];rfl
 ·have hfl':Instr.fill (fun i=>some (i*ae P e,ae P e)) ((Array.range (len*ae P e)).map ((ao ι z.cells).toArray[·%(ao ι z.cells).toArray.size]!)) (ps.map fun x=>(x.1,a.eval x.2)).toList=some (ao ι cs).toArray:=by
    rw[fM,<-g3,qh ι z.cells (by omega) len,g3];exact hfl
  simp only[if_neg h0,Sem.run_bind,h4 ι,Result.andThen_ok,bZ,Sem.run_pure];rw[hfl'];simp only[Sem.run_bind,newRow,run_newObj,Sem.run_pure,Result.andThen_ok,ak,hb,hs];rfl
noncomputable def full (l:List AV):Nat->Nat->Tr (List AV)->Tr (List AV)
 |0,_,c=>c
 |n+1,q,c=>full l n (q+1) (c.set (aX q) l)
theorem zW (l:List AV):∀(n q:Nat)(c:Tr (List AV))(k:Tr (List AV)->Rs),Du n l q c k=k (full l n q c)
 |0,_,_,_=>rfl
 |n+1,q,c,k=>by
  show (c.c9 (aX q) l fun c=>bj (q+1) fun q=>Du n l q c k)=_;rw[Tr.cz,aG,zW l n];rfl
theorem zX (l:List AV):∀(n q:Nat)(c:Tr (List AV))(i:Nat),(full l n q c).get (aX i)=if q<=i/\i<q+n then some l else c.get (aX i)
 |0,q,c,i=>by simp only[full];rw[if_neg (by omega)]
 |n+1,q,c,i=>by
  simp only[full];rw[zX l n];by_cases h:q+1<=i/\i<q+1+n
  ·rw[if_pos h,if_pos (by omega)]
  ·rw[if_neg h];by_cases h2:i=q
   ·subst h2;rw[Tr.br,if_pos (by omega)]
   ·rw[Tr.cI (mR h2),if_neg (by omega)]
theorem xB {t e:TypeId}{x y:Operand}{z:AV}(ho:o.op=.makeSlice t x y)(hu:P.underlying t=some (.slice e))(hz:zeroOf P e=some z)
  (hg:(Nat.beq z.cells.length (ae P e)&&(Nat.ble (ae P e) 1000&&(Nat.blt 0 (ae P e)&&Nat.ble (P.bytesOf e) 1000000)))=true)
  (h:((cH x).run tm fun l=>(cH y).run tm fun c=>asNat l fun l=>asNat c fun c=>bV (Nat.ble l c&&Nat.ble c 10000)
          (Du c z.cells 0 .e fun cs=>lE hp nx (ae P e) c e cs fun id hp nx=>k (.slice id 0 l c) hp nx) (.bad 140))=.ok):sa P o tm hp nx k:=by
 obtain⟨lv,h,hl⟩:=aM h;obtain⟨cv,h,Tt⟩:=aM h;obtain⟨kl,l,rfl,h2⟩:=jG h;obtain⟨kc,c,rfl,h3⟩:=jG h2;obtain⟨hb1,h4⟩:=aJ h3;rw[zW,nQ]at h4;simp only[za]at hg hb1;obtain⟨g1,g2,g3,g5⟩:=hg;have g1:=ai g1;have g2:=aK g2;have g3:=av g3;have g5:=aK g5;have b1:=aK hb1.1;have b2:=aK hb1.2;obtain⟨i,zv,q1,q2,q3,q4⟩:=cJ hz;have hbytes:P.bytesOf e=i.bytes:=by unfold Program.bytesOf;rw[q1];rfl
 have hsz:i.size=ae P e:=by unfold ae;rw[q1];rfl
 have hm:i.bytes*c<=1000000*10000:=zeb (by omega) b2;refine⟨_,.arr (ae P e) c e (full z.cells c 0 .e),h4,rfl,(fun _ _ h=>by cases h),(fun ι nt a ha hs=>⟨.cells (ao ι (fS c z.cells)).toArray e (0,0),fun w hb=>?_,fun hp' w' hy=>vY (cs:=fS c z.cells) hy hs (by rw[fN,g1]) (fun q hq=>?_)⟩)⟩
 ·have hz':zv.cells=(ao ι z.cells).toArray:=by rw[<-eR 8 zv z q3 ι,bZ]
  simp only[execOp,ho,Sem.run_bind];rw[hl ι nt a ha,Tt ι nt a ha,er,er];rw[run_make w t e i zv hu q1 q2 kl kc l c (by omega) (by omega) (by omega) (by omega)];simp only[Result.andThen_ok,Sem.run_pure,zcy,ak,hb,hs]
  have:madeCells zv.cells (c*i.size)=(ao ι (fS c z.cells)).toArray:=by
   unfold madeCells;rw[hz',hsz,<-g1];exact qh ι z.cells (by omega) c
  rw[this]
 ·rw[zX,if_pos (by omega)];congr 1;apply zdh;intro r;have xC:=zae (ae P e) (zcd hq);rw[zax]at xC;by_cases hr:r<ae P e
  ·rw[zci,if_pos hr,zbb,tS _ (by omega) _ _ (by rw[g1];omega),g1];congr 1;rw[Nat.add_comm,Nat.add_mul_mod_self_right,Nat.mod_eq_of_lt hr]
  ·rw[zbr (by omega),zbr (by rw[zaf];omega)]
end
end Go.aI
namespace Go.aI
open Go.RowKit
section
variable {P:Program}
theorem vZ:∀(r c n:Nat),Builtin.growBy n r c<=c*2 ^ r+768*2 ^ r
 |0,c,n=>by simp[Builtin.growBy]
 |r+1,c,n=>by
  simp only[Builtin.growBy];split
  ·have:1<=2 ^ (r+1):=Nat.one_le_two_pow;have:=Nat.mul_le_mul_left c this;omega
  ·refine zam (vZ r _ n) ?_;have h1:c+(c+768)/4<=2*c+768:=by omega
   have h2:=zae (2 ^ r) h1;rw[zdq];generalize 2 ^ r=t at *;generalize c+(c+768)/4=y at *;have e1:(2*c+768)*t=2*(c*t)+768*t:=by rw[zbh,Nat.mul_assoc]
   have e2:c*(t*2)=2*(c*t):=by rw[zct t 2,Nat.mul_left_comm]
   rw[e1]at h2;rw[e2];omega
theorem tT {need cap:Nat}(h:cap<need):Builtin.nextslicecap need cap<=16*need+12288:=by
 unfold Builtin.nextslicecap;split
 ·omega
 ·split
  ·omega
  ·have:=vZ 4 cap need;omega
structure KF (P:Program) (ts tx e:TypeId) (i:TypeInfo) (z:Value) (d:TypeDesc):Prop where
 ts:P.underlying ts=some (.slice e)
 tx:P.underlying tx=some d
 ni:∀k,d≠.int k
 inf:P.info? e=some i
 Vg:i.zero=some z
 VU:i.bytes<=1000000
theorem hX {ts tx e:TypeId}{i:TypeInfo}{z:Value}{d:TypeDesc}(hT:KF P ts tx e i z d){ty:TypeId}{w:World}{b o len cap n:Nat}{x:Value}{nw:List Value}
  (hx:(Builtin.lenOf x).run P w=.ok n w) (hf:(Builtin.firstCells (ae P e) n x).run P w=.ok nw.toArray w) (hn:len+n<=cap) (hv:∀v∈nw,vk v=true) (hc:lQ w b (o+len*ae P e) nw.length) :
  (Builtin.append_ #[ts,tx] ty #[.slice (some ⟨b,o,none⟩) len cap,x]).run P w=.ok (.slice (some ⟨b,o,none⟩) (len+n) cap) (bm w b (o+len*ae P e) nw):=by
 have htx:=hT.tx;have hni:=hT.ni;have hs:=gZ (P:=P) b (o+len*ae P e) nw 0 w hv (by rw[zbu];exact hc);rw[zbu]at hs;cases d
 case int=>exact absurd rfl (hni _)
 all_goals
  simp only[Builtin.append_,zao,zbf,zbm];simp only[Sem.run_bind,ay hT.ts,ay htx,Result.andThen_ok,Sem.run_pure,dE hT.inf,zag,if_false,hx,Sem.run_ite];rw[if_pos hn];simp only[Sem.run_bind,zeo,if_true,hf,Result.andThen_ok];rw[gx];simp only[Sem.run_bind,hs,Result.andThen_ok,Sem.run_pure]
theorem sM {ts tx e:TypeId}{i:TypeInfo}{z:Value}{d:TypeDesc}(hT:KF P ts tx e i z d){ty:TypeId}{w:World}{x:Value}{a:Addr}
  (hx:(Builtin.lenOf x).run P w=.ok 0 w) (hf:(Builtin.firstCells (ae P e) 0 x).run P w=.ok #[] w) :
  (Builtin.append_ #[ts,tx] ty #[.slice (some a) 0 0,x]).run P w=.ok (.slice (some a) 0 0) w:=by
 have htx:=hT.tx;have hni:=hT.ni;cases d
 case int=>exact absurd rfl (hni _)
 all_goals
  simp only[Builtin.append_,zao,zbf,zbm];simp only[Sem.run_bind,ay hT.ts,ay htx,Result.andThen_ok,Sem.run_pure,dE hT.inf,zag,if_false,hx];simp[hf,storeCells]
theorem sN {ts tx e:TypeId}{i:TypeInfo}{z:Value}{d:TypeDesc}(hT:KF P ts tx e i z d){ty:TypeId}{w:World}{b o len cap n:Nat}{x:Value}{nw:List Value}(hl:nw.length=n*ae P e)
  (hx:(Builtin.lenOf x).run P w=.ok n w) (hf:(Builtin.firstCells (ae P e) n x).run P w=.ok nw.toArray w) (hn:len+n<=cap) (hv:∀v∈nw,vk v=true) (hc:lQ w b (o+len*ae P e) nw.length) :
  (Builtin.append_ #[ts,tx] ty #[.slice (some (pS b o len cap)) len cap,x]).run P w=.ok (.slice (some (pS b o (len+n) cap)) (len+n) cap) (bm w b (o+len*ae P e) nw):=by
 by_cases h0:len=0/\cap=0
 ·obtain⟨rfl,rfl⟩:=h0;obtain rfl:n=0:=by omega
  obtain rfl:nw=[]:=List.length_eq_zero_iff.1 (by rw[hl];simp);exact sM hT hx hf
 ·rw[mY h0,mY (by omega)];exact hX hT hx hf hn hv hc
theorem mz {ts tx e:TypeId}{i:TypeInfo}{z:Value}{d:TypeDesc}(hT:KF P ts tx e i z d){ty:TypeId}{w:World}{x:Value}{nw:List Value}
  (hx:(Builtin.lenOf x).run P w=.ok 0 w) (hf:(Builtin.firstCells (ae P e) 0 x).run P w=.ok nw.toArray w) :
  (Builtin.append_ #[ts,tx] ty #[.slice none 0 0,x]).run P w=.ok (.slice none 0 0) w:=by
 have htx:=hT.tx;have hni:=hT.ni;cases d
 case int=>exact absurd rfl (hni _)
 all_goals
  simp only[Builtin.append_,zao,zbf,zbm];simp only[Sem.run_bind,ay hT.ts,ay htx,Result.andThen_ok,Sem.run_pure,dE hT.inf,zag,if_false,hx];simp[hf]
theorem run_append_grow {ts tx e:TypeId}{i:TypeInfo}{z:Value}{d:TypeDesc}(hT:KF P ts tx e i z d){ty:TypeId}{w:World}{base:Option Addr}{len cap n:Nat}{x:Value}{old nw:List Value}
  (hx:(Builtin.lenOf x).run P w=.ok n w) (hf:(Builtin.firstCells (ae P e) n x).run P w.drew=.ok nw.toArray w.drew)
  (ho:(Builtin.firstCells (ae P e) len (.slice base len cap)).run P w.drew=.ok old.toArray w.drew) (hn:cap<len+n) (hsm:len+n<=1000000) :
  ∃c rest,len+n<=c/\(Builtin.append_ #[ts,tx] ty #[.slice base len cap,x]).run P w=.ok (.slice (some ⟨w.heap.size,0,none⟩) (len+n) c) (w.drew.alloc (.cells (old++nw++rest).toArray e (0,0)))/\rest.length=(c-(len+n))*z.cells.size:=by
 have htx:=hT.tx;have hni:=hT.ni;have hcap:=tT hn;have hb:Builtin.nextslicecap (len+n) cap*i.bytes<=(16*1000000+12288)*1000000:=zeb (by omega) hT.VU
 have hmax:¬(((len+n:Nat):Int) > IntKind.i64.max/\i.bytes=0):=by
  have:IntKind.i64.max=9223372036854775807:=by decide
  rw[this];omega
 have ee:∀Z:Array Value,old.toArray++nw.toArray++Z=(old++nw++Z.toList).toArray:=fun Z=>by apply Array.ext';simp
 have hbig:¬Builtin.nextslicecap (len+n) cap*i.bytes > 2 ^ 48:=by omega
 refine⟨(Question.appendCap (len+n) cap e).cut (w.tape w.drawn (.appendCap (len+n) cap e)),(Builtin.zeroCells z.cells ((Question.appendCap (len+n) cap e).cut (w.tape w.drawn (.appendCap (len+n) cap e))-(len+n))).toList,?_,?_,?_⟩
 ·simp only[Question.cut];omega
 ·cases d
  case int=>exact absurd rfl (hni _)
  all_goals
   simp only[Builtin.append_,zao,zbf,zbm];simp only[Sem.run_bind,ay hT.ts,ay htx,Result.andThen_ok,Sem.run_pure,dE hT.inf,zag,if_false,hx,Sem.run_ite];rw[if_neg (by omega)];simp only[Sem.run_bind,nP hT.inf,Result.andThen_ok,Sem.run_ite,false_or,if_neg hmax,if_neg hbig];simp only[Sem.run_bind,run_choose,Question.forced,zag,if_false,Result.andThen_ok,run_askRoom];have e1:({ w with drawn:=w.drawn+1 }:World)=w.drew:=rfl;simp only[e1,Sem.run_pure,Result.andThen_ok,nP hT.inf,zeo,if_true,ho,hf,run_askRoom,Sem.run_bind,zeroValue,hT.Vg,newRow,run_newObj,ee];rfl
 ·simp[Builtin.zeroCells]
end
end Go.aI
namespace Go.aI
open Go.RowKit
theorem tU (sz:Nat):∀{ls:List (List AV)},zl sz ls=true->even sz ls/\flat ls.flatten=true
 | [],_=>⟨fun l hl=>by simp at hl,rfl⟩
 |l::ls,h=>by
  have h:Bool.rec (motive:=fun _=>Bool) false (zl sz ls) (Nat.beq l.length sz&&flat l)=true:=h;cases hb:(Nat.beq l.length sz&&flat l)with
  |false=>rw[hb]at h;cases h
  |true =>
   rw[hb]at h;rw[za]at hb;obtain⟨h1,h2⟩:=tU sz h;refine⟨fun x hx=>?_,by rw[zcc];exact rZ hb.2 h2⟩;rcases List.mem_cons.1 hx with rfl|hx
   ·exact ai hb.1
   ·exact h1 x hx
def tV (l n:Nat):List (List AV):=(bytesOf l n).map fun b=>[.int .u8 (.ofNat b.toNat)]
theorem np:∀(l n:Nat)(acc:List (List AV))(k:List (List AV)->Rs),kR l n acc k=k (tV l n++acc)
 |0,n,acc,k=>rfl
 |l+1,n,acc,k=>by
  show (bj (Nat.mod n 256) fun b=>bj (Nat.div n 256) fun n=>kR l n ([.int .u8 (.ofNat b)]::acc) k)=_;rw[aG,aG,np l];unfold tV;simp only[bytesOf,zat,zal,zdy,zbc,zef,zcx];congr 3;show [AV.int .u8 (.ofNat (n%256))]=[AV.int .u8 (.ofNat (UInt8.ofNat (n%256)).toNat)];rw[zdm];congr 3;omega
structure HA (P:Program) (sz:Nat) (v:AV) (ls:List (List AV)) (ι:En) (w:World):Prop where
 even:even sz ls
 len:(Builtin.lenOf (ak ι v)).run P w=.ok ls.length w
 cells:(Builtin.firstCells sz ls.length (ak ι v)).run P w=.ok (ao ι ls.flatten).toArray w
theorem tW {P:Program}{hp:Tr AO}{sz:Nat}{v:AV}{k:List (List AV)->Rs}(h:lI hp sz v k=.ok):∃ls,k ls=.ok/\∀B w0 ι w,Core B w0 ι hp w->HA P sz v ls ι w:=by
 unfold lI at h;split at h
 ·exact⟨[],h,fun B w0 ι w hc=>⟨fun l hl=>by simp at hl,by simp[ak,Builtin.lenOf],by simp[ak,ao,Builtin.firstCells]⟩⟩
 ·rename_i id off len cap;obtain⟨ls,h,hl,hr⟩:=gX _ _ _ _ _ _ h;refine⟨ls,h,fun B w0 ι w hc=>?_⟩;obtain⟨h1,h2⟩:=hr B w0 ι w hc;refine⟨h1,by simp[ak,Builtin.lenOf,hl],?_⟩;simp only[ak,Builtin.firstCells];exact nR h2 (df h1)
 ·rename_i id off len skip;obtain⟨ls,h,hl,hr⟩:=gX _ _ _ _ _ _ h;refine⟨ls,h,fun B w0 ι w hc=>?_⟩;obtain⟨h1,h2⟩:=hr B w0 ι w hc;refine⟨h1,by simp[ak,Builtin.lenOf,hl],?_⟩;simp only[ak,Builtin.firstCells];exact nR h2 (df h1)
 ·rename_i l n;obtain⟨h1,h⟩:=aJ h;have h1:=ai h1;subst h1;rw[np,zbg]at h;refine⟨_,h,fun B w0 ι w hc=>⟨fun x hx=>?_,?_,?_⟩⟩
  ·unfold tV at hx;obtain⟨b,_,rfl⟩:=List.mem_map.1 hx;rfl
  ·simp only[ak,Builtin.lenOf,Sem.run_pure,tV,zcw];rw[show (ByteArray.mk (bytesOf l n).toArray).size=(bytesOf l n).length from by show (bytesOf l n).toArray.size=_;simp]
  ·simp only[ak,Builtin.firstCells,Sem.run_pure,tV,zcw,aD];congr 1;apply Array.ext'
   have e1:((ByteArray.mk (bytesOf l n).toArray).extract 0 l).data=(bytesOf l n).toArray:=by
    rw[zee];apply Array.ext';simp;rw[zbz (by rw[aD];exact zad _)]
   rw[e1];simp only[List.map_toArray,jr];generalize bytesOf l n=bs
   induction bs with
   |nil=>rfl
   |cons b bs ih=>simp only[zal,zcc,zef,zcx,zat];rw[<-ih];simp[ak]
 ·cases h
theorem xD {B:Nat->Prop}{w0 w:World}{ι:En}{hp:Tr AO}(hc:Core B w0 ι hp w):∀i p,hp.get i=some p->own hp p->ι.aS i<w.heap.size:=by
 intro i p hi hp';have:=hc.obj _ _ hi;cases p with
 |arr es n el c=>obtain⟨C,fz,h1,_⟩:=this;exact (Array.getElem?_eq_some_iff.1 h1).1
 |cG f e tp es n el c=>obtain⟨C,fz,h1,_⟩:=this hp';exact (Array.getElem?_eq_some_iff.1 h1).1
 |dJ=>exact hp'.elim
 |map es c=>obtain⟨E,h1,_⟩:=this;exact (Array.getElem?_eq_some_iff.1 h1).1
 |iter=>exact (Array.getElem?_eq_some_iff.1 this.1).1
 |loop=>obtain⟨_,_,_,h1,_⟩:=this;exact (Array.getElem?_eq_some_iff.1 h1).1
 |fa=>exact (Array.getElem?_eq_some_iff.1 this).1
 |gone=>exact DE this
theorem FF {B:Nat->Prop}{w0 w:World}{ι:En}{hp:Tr AO}{nx:Pz}{sz n cap:Nat}{el:TypeId}{c:Tr (List AV)}{C:Array Value}{fz:Nat×Nat}(hw:Wf hp nx)(hc:Core B w0 ι hp w)(hb:ι.aS nx.succ=w.heap.size)(hs:ι.sh nx.succ=0)(hk:ι.kS nx.succ=cap)
  (hn:n<=cap) (hC:cap*sz<=C.size) (hcells:eK ι C 0 sz n c) (hfz:fL fz C.size) :
  Core B w0 ι ((hp.set nx (.dJ 0 true)).set nx.succ (.cG nx 0 true sz n el c)) (w.alloc (.cells C el fz)):=by
 have hw1:=Hn (ep:=0) (s:=true) hw;have hc1:=Hm (ep:=0) (s:=true) hw hc;have hlt:=xD hc1;have hroom:=hc.room;refine lR hw1 hc1 (fun _=>⟨C,fz,by rw[hb];exact heap_alloc_new _ _,by rw[hs,hk];omega,by rw[hk];exact hn,by rw[hs];exact hcells,hfz⟩) (fun i o hi ho=>?_) (hc.below.alloc hc.room _) (fun k hk=>by have:=hc.room k hk;simp;omega) (by rw[hb];exact fun h=>by have:=hc.room _ h;omega) (fun i o hi ho e=>?_) (fun _ i f' e' tp' es' n' el' c' hi hl=>⟨fun e=>?_,fun e _=>?_⟩) (fun i f' e' es' n' el' c' hi hl=>⟨fun e=>?_,fun e _=>?_⟩)
 ·exact (hc1.obj i o hi).bE (fun x=>x) fun _=>Below.heap_alloc _ _ _ (hlt i o hi ho)
 ·have:=hlt i o hi ho;rw[e,hb]at this;omega
 ·rcases ah hi with ⟨_,h⟩|⟨_,h⟩
  ·cases h
  ·have:=hw.dJ _ _ _ _ _ _ _ _ h;rw[<-e]at this;omega
 ·have:=hlt i _ hi hl;rw[<-e,hb]at this;omega
 ·rcases ah hi with ⟨_,h⟩|⟨_,h⟩
  ·cases h
  ·have:=hw.dJ _ _ _ _ _ _ _ _ h;rw[e]at this;omega
 ·have:=hlt i _ hi hl;rw[e,hb]at this;omega
theorem KG {hp:Tr AO}{nx:Pz}{sz n:Nat}{el:TypeId}{c:Tr (List AV)}(hw:Wf hp nx):Wf ((hp.set nx (.dJ 0 true)).set nx.succ (.cG nx 0 true sz n el c)) nx.succ.succ:=by
 refine zC (s:=true) (Hn hw) (Tr.br _ _ _) (fun _ i e tp es n el c h=>?_);rcases ah h with ⟨_,h⟩|⟨_,h⟩
 ·cases h
 ·have:=hw.dJ _ _ _ _ _ _ _ _ h;omega
section
variable {P:Program}{o:Oper}{tm:Tm}{hp:Tr AO}{nx:Pz}{k:AV->Tr AO->Pz->Rs}{call:bP}
theorem zY {sz n:Nat}{el:TypeId}{c:Tr (List AV)}(h:∀B w0 ι nt a w,bW ι nt tm a->Core B w0 ι hp w->∃cap C fz w1,Core B w0 ι hp w1/\w1.heap.size=w.heap.size/\(execOp a.eval o).run P w=.ok (.value (.slice (some ⟨w.heap.size,0,none⟩) n cap)) (w1.alloc (.cells C el fz)) /\
      n<=cap/\cap*sz<=C.size/\eK ι C 0 sz n c/\fL fz C.size):GU P o tm hp nx (.bt nx.succ 0 n 0) ((hp.set nx (.dJ 0 true)).set nx.succ (.cG nx 0 true sz n el c)) nx.succ.succ:=by
 refine⟨by rw[Pz.cw,Pz.cw];omega,fun hw=>KG hw,fun B w0 nt a w ι hs=>?_⟩;obtain⟨t1,c1⟩:=hs.2 ι (al.refl _ _);obtain⟨cap,C,fz,w1,hc1,hsz,hr,h1,h2,h3,h4⟩:=h B w0 ι nt a w t1 c1;have hag:al nx ι (ι.at nx.succ w.heap.size 0 cap):=fun id hid=>g9 ι nx.succ _ _ _ id (by rw[Pz.cw];omega);refine⟨_,_,_,hag,.inl hr,fun ι' hι=>?_⟩;obtain⟨ha,hb,hsh,hkp⟩:=dw hι;have hag':al nx ι ι':=fun id hid=>ha id (by rw[Pz.cw];omega);obtain⟨t2,c2⟩:=hs.2 ι' hag';obtain⟨cap',C',fz',w1',hc1',hsz',hr',h1',h2',h3',h4'⟩:=h B w0 ι' nt a w t2 c2;rw[hr]at hr';simp only[Result.ok.injEq,Next.value.injEq,Value.slice.injEq]at hr';obtain⟨⟨_,_,hcap⟩,hw'⟩:=hr';subst hcap;rw[hw'];refine⟨FF hs.1 hc1' (by rw[hb,hsz']) hsh hkp h1' h2' h3' h4',?_⟩;simp[ak,hb,hsh,hkp]
end
end Go.aI
namespace Go.aI
open Go.RowKit
theorem v8 {ι:En}{w:World}{id:Pz}{es n:Nat}{c:Tr (List AV)}(h:tI ι w id es n c){off len:Nat}(hl:off+len<=n*es) :
  ∃l:List Value,l.length=len/\∀j,j<len->w.cell? ⟨ι.aS id,ι.sh id+(off+j),none⟩=l[j]?:=by
 obtain⟨C,el,fz,h1,h2,h3,h4⟩:=h;refine⟨(C.toList.drop (ι.sh id+off)).take len,by rw[zaf,zas,zdj];omega,fun j hj=>?_⟩;rw[nO h1,zci,if_pos hj,zbb,zcn,zbq]
theorem qi {P:Program}{w:World}{b o n sz cap len:Nat}{l:List Value}(hl:l.length=n*sz)(h:∀j,j<n*sz->w.cell? ⟨b,o+j,none⟩=l[j]?):(Builtin.firstCells sz n (.slice (some ⟨b,o,none⟩) len cap)).run P w=.ok l.toArray w:=by
 simp only[Builtin.firstCells];exact run_loadCells hl.symm (fun j hj=>h j (by omega))
theorem kW {P:Program}{w:World}{b o sz cap len:Nat}{l:List Value}(hl:l.length=len*sz)(h:∀j,j<len*sz->w.cell? ⟨b,o+j,none⟩=l[j]?):(Builtin.firstCells sz len (.slice (some (pS b o len cap)) len cap)).run P w=.ok l.toArray w:=by
 by_cases h0:len=0/\cap=0
 ·obtain⟨rfl,rfl⟩:=h0;obtain rfl:l=[]:=List.length_eq_zero_iff.1 (by rw[hl];simp);simp[Builtin.firstCells,loadCells,loadCellsFrom]
 ·rw[mY h0];exact qi hl h
theorem sd {ι:En}{w:World}{id:Pz}{es n:Nat}{c:Tr (List AV)}(h:tI ι w id es n c){len:Nat}(hl:len<=n){C':Array Value}{base:Nat}(hC:∀i,i<len*es->C'[base+i]?=w.cell? ⟨ι.aS id,ι.sh id+i,none⟩):eK ι C' base es len c:=by
 obtain⟨C,el,fz,h1,h2,h3,h4⟩:=h;intro q hq;obtain⟨l,g1,g2,g3⟩:=h3 q (by omega);refine⟨l,g1,g2,fun r hr=>?_⟩;have hm:=zae es (zcd hq);rw[zax]at hm;rw[hC _ (by omega),nO h1,g3 r hr]
section
variable {P:Program}{o:Oper}{tm:Tm}{hp:Tr AO}{nx:Pz}{k:AV->Tr AO->Pz->Rs}{call:bP}
theorem tX {c:Call}{b:Builtin}{ts tx:TypeId}{s x:Operand}(ho:o.op=.call c)(hc:c.callee=.builtin b)(ht:c.argTypes.toList=[ts,tx])(hx:c.args.toList=[s,x]){a:Act}{w:World}{f:Array TypeId->TypeId->Array Value->Sem Value}
  (hb:∀ats ty cs as,builtin b ats ty cs as=(do pure (.value (<-f ats ty as)))):(execOp a.eval o).run P w=((f #[ts,tx] o.type #[a.eval s,a.eval x]).run P w).andThen fun v w'=>.ok (.value v) w':=by
 have hargs:c.args.map a.eval=#[a.eval s,a.eval x]:=by rw[map_mk,hx];rfl
 have hats:c.argTypes=#[ts,tx]:=by apply Array.ext';rw[ht]
 simp only[execOp,ho,resolve,hc,hargs,hats,Sem.run_bind,Sem.run_pure,Result.andThen_ok,invoke,hb]
theorem xE {c:Call}{ts tx e:TypeId}{d:TypeDesc}{s x:Operand}{z:AV}(ho:o.op=.call c)(hc:c.callee=.builtin .append)(ht:c.argTypes.toList=[ts,tx])(hx:c.args.toList=[s,x])
  (hts:P.underlying ts=some (.slice e)) (htx:P.underlying tx=some d) (hni:∀kd,d≠.int kd) (hz:zeroOf P e=some z) (hg:(Nat.ble (P.bytesOf e) 1000000&&(Nat.beq z.cells.length (ae P e)&&Nat.blt 0 (ae P e)))=true)
  (htail:∀(v:AV) (id:Pz) (off len skip:Nat) (ls:List (List AV)),(∀ι nt a,bW ι nt tm a->a.eval s=ak ι (.bt id off len skip))->(∀ι nt a,bW ι nt tm a->a.eval x=ak ι v)->(∀B w0 ι w,Core B w0 ι hp w->HA P (ae P e) v ls ι w) ->
   zl (ae P e) ls=true->s8 hp nx e (ae P e) (.bt id off len skip) ls k=.ok->jS P o tm hp nx k)
  (h:((cH s).run tm fun s=>(cH x).run tm fun x=>lI hp (ae P e) x fun ls=>s8 hp nx e (ae P e) s ls k)=.ok):jS P o tm hp nx k:=by
 obtain⟨sv,h,hsv⟩:=aM h;obtain⟨xv,h,hxv⟩:=aM h;obtain⟨ls,h,hsrc⟩:=tW (P:=P) h;obtain⟨i,zv,q1,q2,q3,q4⟩:=cJ hz;simp only[za]at hg;obtain⟨g1,g2,g3⟩:=hg;have g1:=aK g1;have g2:=ai g2;have g3:=av g3;have hbytes:P.bytesOf e=i.bytes:=by unfold Program.bytesOf;rw[q1];rfl
 have hT:KF P ts tx e i zv d:=⟨hts,htx,hni,q1,q2,by omega⟩;have hzs:∀ι:En,zv.cells.size=ae P e:=fun ι=>by rw[<-eR 8 zv z q3 ι,bZ];simp[aq,g2]
 have hrun:∀(a:Act) (w:World),(execOp a.eval o).run P w=((Builtin.append_ #[ts,tx] o.type #[a.eval s,a.eval x]).run P w).andThen fun v w'=>.ok (.value v) w':=fun a w=>tX ho hc ht hx (fun _ _ _ _=>rfl);have h0:=h;obtain⟨hev,h⟩:=aJ h;obtain⟨he,hfl⟩:=tU _ hev;rw[aG]at h
 have grown:∀(base:AV) (len cap:Nat) (pre:List (List AV)) (c0:Tr (List AV)),(∀ι nt a,bW ι nt tm a->a.eval s=ak ι base)->gU (len+ls.length) (ae P e)=true->cap<len+ls.length ->
   (∀B w0 ι w,Core B w0 ι hp w->∃(bb:Option Addr) (old:List Value),ak ι base=.slice bb len cap/\(Builtin.firstCells (ae P e) len (.slice bb len cap)).run P w.drew=.ok old.toArray w.drew/\old.length=len*ae P e /\
    ∀C':Array Value,(∀i,i<len*ae P e->C'[i]?=old[i]?)->(∀i,i<ls.length*ae P e->C'[len*ae P e+i]?=((ls.flatten)[i]?).map (ak ι))->eK ι C' 0 (ae P e) (len+ls.length) c0) ->
   GU P o tm hp nx (.bt nx.succ 0 (len+ls.length) 0) ((hp.set nx (.dJ 0 true)).set nx.succ (.cG nx 0 true (ae P e) (len+ls.length) e c0)) nx.succ.succ:=by
  intro base len cap pre c0 hbase hsm hcap hold;unfold gU at hsm;rw[za]at hsm;have hsm1:=aK hsm.1;refine zY (fun B w0 ι nt a w ha hcc=>?_);obtain⟨bb,old,e1,e2,e3,e4⟩:=hold B w0 ι w hcc;have hs:=hsrc B w0 ι w hcc;have hs':=hsrc B w0 ι w.drew (iy hcc);obtain⟨cc,rest,r1,r2,r3⟩:=run_append_grow hT (ty:=o.type) (x:=ak ι xv) hs.len hs'.cells e2 hcap hsm1;refine⟨cc,(old++ao ι ls.flatten++rest).toArray,(0,0),w.drew,iy hcc,rfl,?_,r1,?_,e4 _ (fun i hi=>?_) (fun i hi=>?_),Or.inl rfl⟩
  ·rw[hrun,hbase ι nt a ha,hxv ι nt a ha,e1,r2];rfl
  ·rw[zec,zak,zak,e3,aq,df he,r3,hzs ι,<-zbh,<-zbh];exact zdz (by congr 1;omega)
  ·rw[zao,zbc,zau (by omega)]
  ·rw[zao,zbc,zay (by omega),e3,zcr,zau (by rw[aq,df he];exact hi),bu]
 have nwone:∀ι:En,∀v∈ao ι ls.flatten,vk v=true:=fun ι=>jw ι _ hfl;cases sv with
 |ab =>
  rcases bQ h with ⟨hm,h⟩|⟨hm,h⟩
  ·have hm:=ai hm
   have key:gI P o tm hp .ab:=fun B w0 ι nt a w ha hcc=>by
    have hs:=hsrc B w0 ι w hcc;rw[hrun,hsv ι nt a ha,hxv ι nt a ha];simp only[ak];have e1:=hs.len;have e2:=hs.cells;rw[hm]at e1 e2;rw[mz hT e1 e2];rfl
   exact (bL key h).to
  ·obtain⟨hsm,h⟩:=aJ h;unfold grow at h;rw[aG,lS,cW,cW]at h;have hm:=qW hm;have:=grown .ab 0 0 [] (lay ls 0 .e) (fun ι nt a ha=>hsv ι nt a ha) (by rw[zaq];exact hsm) (by omega) (fun B w0 ι w hcc=>⟨none,[],rfl,by simp[Builtin.firstCells],by simp,fun C' _ hn=>gO (C:=C') (iQ _ _ _ _ _) he (fun i hi=>rfl) (fun i hi=>by rw[zaq];exact hn i hi)⟩);rw[zaq]at this;exact this.to h
 |slice id off len cap =>
  simp only[aG]at h;rcases bQ h with ⟨hb,h⟩|⟨hb,h⟩
  ·have hb:=aK hb;obtain⟨hp1,h,hf1,_,hput⟩:=kJ _ _ _ _ _ _ h
   have key:FA P o tm hp nx (.slice id off (len+ls.length) cap) hp1:=by
    refine⟨hput.1 nx,fun B w0 ι nt a w hw ha hcc=>?_⟩;obtain⟨c1,c2⟩:=hput.2 B w0 ι w nx hw hcc;have hs:=hsrc B w0 ι w hcc;refine⟨_,_,.inl ?_,rfl,c1⟩;rw[hrun,hsv ι nt a ha,hxv ι nt a ha];simp only[ak];have:=hX hT (ty:=o.type) (b:=ι.aS id) (o:=ι.sh id+off) (cap:=cap) hs.len hs.cells hb (nwone ι) (by rw[aq,zbq (ι.sh id) off];exact c2);rw[zbq (ι.sh id) off]at this;rw[this];rfl
   exact key.Fz.to h
  ·have hb:=BX hb;obtain⟨hsm,h⟩:=aJ h;obtain⟨es,n,c1,h,_,hrow⟩:=xq h;rcases bQ h with ⟨hq,h5⟩|⟨_,h⟩
   ·simp only[za]at hq;obtain⟨a1,a2,a3⟩:=hq;have a1:=ai a1;have a2:=ai a2;have a3:=aK a3;subst a1;subst a2;unfold He at h5;rw[aG,lS,cW,cW]at h5;refine (grown (.slice id 0 len cap) len cap [] (lay ls len c1) (fun ι nt a ha=>hsv ι nt a ha) hsm hb (fun B w0 ι w hcc=>?_)).to h5;have hr:=hrow B w0 ι w hcc;obtain⟨old,o1,o2⟩:=v8 hr (off:=0) (len:=len*ae P e) (by rw[zaq];exact zae _ a3);refine⟨_,old,rfl,qi o1 (fun j hj=>by have:=o2 j hj;rw[zaq]at this;rw[<-this];rfl),o1,fun C' h1 h2=>?_⟩;refine gO (C:=C') (sd hr a3 (fun i hi=>?_)) he (fun i hi=>rfl) (fun i hi=>by rw[zaq];exact h2 i hi);rw[zaq,h1 i hi,<-o2 i hi,zaq]
   ·obtain⟨pre,h,hl,hpre⟩:=gX _ _ _ _ _ _ h;unfold grow at h;rw[aG,lS,cW,cW,zak,hl]at h;refine (grown (.slice id off len cap) len cap pre (lay (pre++ls) 0 .e) (fun ι nt a ha=>hsv ι nt a ha) hsm hb (fun B w0 ι w hcc=>?_)).to h;obtain⟨p1,p2⟩:=hpre B w0 ι w hcc;have hpl:pre.flatten.length=len*ae P e:=by rw[df p1,hl]
    refine⟨_,ao ι pre.flatten,rfl,qi (by rw[aq,hpl]) (fun j hj=>by rw[bu,<-p2 j (by omega),zbq];rfl),by rw[aq,hpl],fun C' h1 h2=>?_⟩;have:=gO (ι:=ι) (C:=C') (C':=C') (base:=0) (c:=.e) (iQ ι C' 0 (ae P e) .e) (rY p1 he) (fun i hi=>rfl) (fun i hi=>?_)
    ·rw[zaq,zak,hl]at this;exact this
    ·rw[zbw,zaq,zaq,List.flatten_append];rw[zak,hl,zbh]at hi;by_cases hlt:i<len*ae P e
     ·rw[h1 i hlt,zau (by omega),bu]
     ·have:=h2 (i-len*ae P e) (by omega);rw[zay (by omega),hpl,<-this];congr 1;omega
 |bt id off len skip=>exact htail xv id off len skip ls hsv hxv hsrc hev h0
 |_=>cases h
end
end Go.aI
namespace Go.aI
open Go.RowKit
theorem HB (hp:Tr AO)(nx id f:Pz)(ep:Nat)(e9:Bool)(es need n0:Nat)(el:TypeId)(c c':Tr (List AV))(k:AV->Tr AO->Pz->Rs) :
  zk hp nx id f ep e9 es need n0 el c c' k=k (.bt nx 0 need 0) ((eG hp id f (if e9 then ep else ep+1) es n0 el c).set nx (.cG f (if e9 then ep else ep+1) true es need el c')) nx.succ:=by
 unfold zk;rw[aG,aG,Tr.cz,Tr.cz,cW];cases e9<;>rfl
def qj (hp:Tr AO)(id:Pz)(off len es:Nat)(ls:List (List AV))(c':Tr (List AV)):Prop :=
 ∀B w0 ι w,Core B w0 ι hp w->∀(C':Array Value) (base:Nat),(∀i,i<len*es->C'[base+i]?=w.cell? ⟨ι.aS id,ι.sh id+(off+i),none⟩) ->
  (∀i,i<ls.length*es->C'[base+(len*es+i)]?=((ls.flatten)[i]?).map (ak ι))->eK ι C' base es (len+ls.length) c'
section
variable {hp:Tr AO}{nx id f:Pz}{ep ep' es n len skip m:Nat}{e9 s0:Bool}{el:TypeId}{c c':Tr (List AV)}{ls:List (List AV)}
theorem tY (hw:Wf hp nx)(ho:hp.get id=some (.cG f ep e9 es n el c))(hf:hp.get f=some (.dJ ep s0))(hep:(ep'=ep/\e9=true/\skip+len=n)∨ep'=ep+1)(hn0:skip+len<=n)(hgt:n<skip+(len+ls.length))
  (he:even es ls) (htree:qj hp id (skip*es) len es ls c') {B:Nat->Prop} {w0 w:World} {ι:En} (hc:Core B w0 ι hp w) (hfit:len+ls.length<=ι.kS id-skip) (hb:ι.aS nx=ι.aS id) (hs:ι.sh nx=ι.sh id+skip*es) (hk:ι.kS nx=ι.kS id-skip) :
  Core B w0 ι ((eG hp id f ep' es (skip+len) el c).set nx (.cG f ep' true es (len+ls.length) el c')) (bm w (ι.aS id) (ι.sh id+(skip*es+len*es)) (ao ι ls.flatten))/\lQ w (ι.aS id) (ι.sh id+(skip*es+len*es)) (ls.length*es):=by
 have hep2:ep'=ep∨ep'=ep+1:=hep.imp (·.1) (fun x=>x);have hlv:live hp f ep:=⟨_,hf⟩;have hw1:=xu (n0:=skip+len) hw ho hf hep2;have hc1:=tJ (n0:=skip+len) hw ho hf hep2 hn0 hc;obtain⟨C,fz,g1,g2,g3,g4,g5⟩:=hc.obj _ _ ho hlv;have hflen:(ao ι ls.flatten).length=ls.length*es:=by rw[aq,df he]
 have hkap:skip+(len+ls.length)<=ι.kS id:=by omega
 have hroom:ι.sh id+(skip*es+len*es)+ls.length*es<=C.size:=by
  have:=zae es hkap;rw[zbh,zbh]at this;omega
 have hput:∀i,i<skip*es+len*es->(ei C (ι.sh id+(skip*es+len*es)) (ao ι ls.flatten))[ι.sh id+i]?=C[ι.sh id+i]?:=fun i hi=>by
  rw[dM _ _ _ _ (by rw[hflen];exact hroom),if_neg (by omega)]
 have hblk1:∀i o,i≠id->(eG hp id f ep' es (skip+len) el c).get i=some o->own (eG hp id f ep' es (skip+len) el c) o->ι.aS i=ι.aS id->iu o=some f:=by
  intro i o hi hg hown e;have hgid:(eG hp id f ep' es (skip+len) el c).get id=some (.cG f ep' false es (skip+len) el c):=Tr.br _ _ _
  have hlid:live (eG hp id f ep' es (skip+len) el c) f ep':=by
   refine⟨false,?_⟩;have hne:f≠id:=fun e=>by rw[e,ho]at hf;cases hf
   unfold eG;rw[Tr.cI hne,Tr.br]
  obtain⟨g,e1,e2⟩:=hc1.sep i id o _ hi hg hgid hown hlid e;cases e2;exact e1
 have hrest:∀i f' e' tp' es' n' el' c'',i≠id->(eG hp id f ep' es (skip+len) el c).get i=some (.cG f' e' tp' es' n' el' c'')->live (eG hp id f ep' es (skip+len) el c) f' e'->f'=f->tp'=false/\(ι.aS i=ι.aS id->ι.sh i+n'*es'<=ι.sh id+(skip*es+len*es)):=by
  intro i f' e' tp' es' n' el' c'' hi hg hl hff;obtain⟨r1,r2⟩:=kU hw ho hf hep hc hi hg hl hff;refine⟨r1,fun e=>?_⟩;have:=r2 e (by omega);rw[zbh]at this;exact this
 refine⟨lR hw1 hc1 (fun _=>?_) (fun i o hg hown=>?_) (eN _ _ _ _ (hc.base _ _ ho hlv) hc.below) (fun k hk=>by rw[iI];exact hc.room k hk) (by rw[hb];exact hc.base _ _ ho hlv) (fun i o hg hown e=>?_) (fun _ i f' e' tp' es' n' el' c'' hg hl=>⟨fun e=>?_,fun e _=>?_⟩) (fun i f' e' es' n' el' c'' hg hl=>⟨fun e=>?_,fun e _=>?_⟩),kT g1 hroom g5⟩
 ·refine⟨_,fz,by rw[hb];exact de _ _ _ _ _ _ _ g1,?_,by rw[hk];exact hfit,?_,by rw[bp];exact g5⟩
  ·rw[bp,hs,hk];have:ι.kS id*es=skip*es+(ι.kS id-skip)*es:=by rw[<-zbh];congr 1;omega
   omega
  ·rw[hs];refine htree B w0 ι w hc _ _ (fun i hi=>?_) (fun i hi=>?_)
   ·rw[zbq,hput _ (by omega),nO g1]
   ·rw[dM _ _ _ _ (by rw[hflen];exact hroom),if_pos (by omega),bu];congr 2;omega
 ·by_cases hi:i=id
  ·subst hi
   have:o=.cG f ep' false es (skip+len) el c:=by
    rcases cg hg with ⟨_,h⟩|⟨h,_⟩|⟨h,_⟩
    ·exact h
    ·exact absurd rfl h
    ·exact absurd rfl h
   subst this;intro _;refine⟨_,fz,de _ _ _ _ _ _ _ g1,by rw[bp];exact g2,by omega,fun q hq=>?_,by rw[bp];exact g5⟩;obtain⟨l,l1,l2,l3⟩:=g4 q (by omega);refine⟨l,l1,l2,fun r hr=>?_⟩;have hm:=zae es (zcd hq);rw[zax,zbh]at hm;rw[hput _ (by omega)];exact l3 r hr
  ·by_cases e:ι.aS i=ι.aS id
   ·have hfo:=hblk1 i o hi hg hown e;cases o with
    |cG f' e' tp' es' n' el' c'' =>
     cases hfo;obtain⟨_,r2⟩:=hrest i _ _ _ _ _ _ _ hi hg hown rfl;have r2:=r2 e;intro _;obtain⟨C2,fz2,k1,k2,k3,k4,k5⟩:=hc1.obj _ _ hg hown;rw[e,g1]at k1;cases k1;refine⟨_,fz,by rw[e];exact de _ _ _ _ _ _ _ g1,by rw[bp];exact k2,k3,fun q hq=>?_,by rw[bp];exact k5⟩;obtain⟨l,l1,l2,l3⟩:=k4 q hq;refine⟨l,l1,l2,fun r hr=>?_⟩;have hm:=zae es' (zcd hq);rw[zax]at hm;rw[dM _ _ _ _ (by rw[hflen];exact hroom),if_neg (by omega)];exact l3 r hr
    |_=>cases hfo
   ·exact (hc1.obj _ _ hg).bE (fun x=>x) fun _=>gM _ _ _ _ _ e
 ·rw[hb]at e;by_cases hi:i=id
  ·subst hi;rcases cg hg with ⟨_,h⟩|⟨h,_⟩|⟨h,_⟩
   ·rw[h];rfl
   ·exact absurd rfl h
   ·exact absurd rfl h
  ·exact hblk1 i o hi hg hown e
 ·by_cases hi:i=id
  ·subst hi;rcases cg hg with ⟨_,h⟩|⟨h,_⟩|⟨h,_⟩
   ·cases h;rfl
   ·exact absurd rfl h
   ·exact absurd rfl h
  ·exact (hrest i _ _ _ _ _ _ _ hi hg hl e.symm).1
 ·rw[hb]at e;rw[hs];by_cases hi:i=id
  ·subst hi;rcases cg hg with ⟨_,h⟩|⟨h,_⟩|⟨h,_⟩
   ·cases h;rw[zbh,zbh];omega
   ·exact absurd rfl h
   ·exact absurd rfl h
  ·have hfo:=hblk1 i _ hi hg hl e.symm;have:=(hrest i _ _ _ _ _ _ _ hi hg hl (Option.some.inj hfo)).2 e.symm;rw[zbh];omega
 ·by_cases hi:i=id
  ·subst hi;rcases cg hg with ⟨_,h⟩|⟨h,_⟩|⟨h,_⟩
   ·cases h
   ·exact absurd rfl h
   ·exact absurd rfl h
  ·exact absurd (hrest i _ _ _ _ _ _ _ hi hg hl e).1 (by decide)
 ·rw[hb]at e;by_cases hi:i=id
  ·subst hi;rcases cg hg with ⟨_,h⟩|⟨h,_⟩|⟨h,_⟩
   ·cases h
   ·exact absurd rfl h
   ·exact absurd rfl h
  ·have hfo:=hblk1 i _ hi hg hl e;exact absurd (hrest i _ _ _ _ _ _ _ hi hg hl (Option.some.inj hfo)).1 (by decide)
theorem HC (hw:Wf hp nx)(ho:hp.get id=some (.cG f ep e9 es n el c))(hf:hp.get f=some (.dJ ep s0))(hep:(ep'=ep/\e9=true/\skip+len=n)∨ep'=ep+1)(hn0:skip+len<=n)
  {B:Nat->Prop} {w0 w:World} {ι:En} (hc:Core B w0 ι hp w) {C:Array Value} {cap:Nat} (hb:ι.aS nx=w.heap.size) (hs:ι.sh nx=0) (hk:ι.kS nx=cap) (hcap:m<=cap) (hC:cap*es<=C.size) (hcells:eK ι C 0 es m c') :
  Core B w0 ι ((eG hp id f ep' es (skip+len) el c).set nx (.cG f ep' true es m el c')) (w.alloc (.cells C el (0,0))):=by
 have hep2:ep'=ep∨ep'=ep+1:=hep.imp (·.1) (fun x=>x);have hw1:=xu (n0:=skip+len) hw ho hf hep2;have hc1:=tJ (n0:=skip+len) hw ho hf hep2 hn0 hc;have hlt:=xD hc1;have hroom:=hc.room;refine lR hw1 hc1 (fun _=>⟨C,(0,0),by rw[hb];exact heap_alloc_new _ _,by rw[hs,hk];omega,by rw[hk];exact hcap,by rw[hs];exact hcells,Or.inl rfl⟩) (fun i o hi ho'=>?_) (hc.below.alloc hc.room _) (fun k hk=>by have:=hc.room k hk;simp;omega) (by rw[hb];exact fun h=>by have:=hc.room _ h;omega) (fun i o hi ho' e=>?_) (fun _ i f' e' tp' es' n' el' c'' hg hl=>⟨fun e=>?_,fun e _=>?_⟩) (fun i f' e' es' n' el' c'' hg hl=>⟨fun e=>?_,fun e _=>?_⟩)
 ·exact (hc1.obj i o hi).bE (fun x=>x) fun _=>Below.heap_alloc _ _ _ (hlt i o hi ho')
 ·have:=hlt i o hi ho';rw[e,hb]at this;omega
 ·by_cases hi:i=id
  ·subst hi;rcases cg hg with ⟨_,h⟩|⟨h,_⟩|⟨h,_⟩
   ·cases h;rfl
   ·exact absurd rfl h
   ·exact absurd rfl h
  ·exact (kU hw ho hf hep hc hi hg hl e.symm).1
 ·have:=hlt i _ hg hl;rw[<-e,hb]at this;omega
 ·by_cases hi:i=id
  ·subst hi;rcases cg hg with ⟨_,h⟩|⟨h,_⟩|⟨h,_⟩
   ·cases h
   ·exact absurd rfl h
   ·exact absurd rfl h
  ·exact absurd (kU hw ho hf hep hc hi hg hl e).1 (by decide)
 ·have:=hlt i _ hg hl;rw[e,hb]at this;omega
theorem DI (hw:Wf hp nx)(ho:hp.get id=some (.cG f ep e9 es n el c))(hf:hp.get f=some (.dJ ep s0))(hep:ep'=ep∨ep'=ep+1){n0:Nat}{tp:Bool}:Wf ((eG hp id f ep' es n0 el c).set nx (.cG f ep' tp es m el c')) nx.succ:=by
 have hne:f≠id:=fun e=>by rw[e,ho]at hf;cases hf
 refine zC (s:=false) (xu hw ho hf hep) ?_ (fun h=>by cases h);unfold eG;rw[Tr.cI hne,Tr.br]
end
end Go.aI
namespace Go.aI
open Go.RowKit
section
variable {P:Program}{o:Oper}{tm:Tm}{hp:Tr AO}{nx:Pz}{k:AV->Tr AO->Pz->Rs}{call:bP}
theorem FG {id f:Pz}{ep es n len:Nat}{e9 s0:Bool}{el:TypeId}{c:Tr (List AV)}{ls:List (List AV)}(ho:hp.get id=some (.cG f ep e9 es n el c))(hf:hp.get f=some (.dJ ep s0))(hl:len<=n)(he:even es ls):qj hp id (0*es) len es ls (lay ls len c):=by
 intro B w0 ι w hc C' base h1 h2;obtain⟨C,fz,g1,g2,g3,g4,g5⟩:=hc.obj _ _ ho ⟨_,hf⟩;have hrow:tI ι w id es n c:=⟨C,el,fz,g1,zam (zen (zae _ g3) _) g2,g4,g5⟩;refine gO (C:=C') (sd hrow hl (fun i hi=>?_)) he (fun i hi=>rfl) h2;rw[h1 i hi];congr 2;omega
theorem FH {id:Pz}{off len es:Nat}{ls pre:List (List AV)}(hl:pre.length=len)(hpre:∀B w0 ι w,Core B w0 ι hp w->even es pre/\pX ι w id off pre.flatten)(he:even es ls):qj hp id off len es ls (lay (pre++ls) 0 .e):=by
 intro B w0 ι w hc C' base h1 h2;obtain⟨p1,p2⟩:=hpre B w0 ι w hc;have hpl:pre.flatten.length=len*es:=by rw[df p1,hl]
 have:=gO (ι:=ι) (C:=C') (C':=C') (base:=base) (c:=.e) (iQ ι C' base es .e) (rY p1 he) (fun i hi=>rfl) (fun i hi=>?_)
 ·rw[zaq,zak,hl]at this;exact this
 ·rw[zbw,zaq,List.flatten_append];rw[zak,hl,zbh]at hi;by_cases hlt:i<len*es
  ·rw[h1 i hlt,zau (by omega),p2 i (by omega)]
  ·have:=h2 (i-len*es) (by omega);rw[zay (by omega),hpl,<-this];congr 1;omega
theorem zZ {c:Call}{ts tx e:TypeId}{d:TypeDesc}{s x:Operand}{z:AV}(ho:o.op=.call c)(hc:c.callee=.builtin .append)(ht:c.argTypes.toList=[ts,tx])(hx:c.args.toList=[s,x])
  (hts:P.underlying ts=some (.slice e)) (htx:P.underlying tx=some d) (hni:∀kd,d≠.int kd) (hz:zeroOf P e=some z) (hg:(Nat.ble (P.bytesOf e) 1000000&&(Nat.beq z.cells.length (ae P e)&&Nat.blt 0 (ae P e)))=true)
  (v:AV) (id:Pz) (off len skip:Nat) (ls:List (List AV)) (hsv:∀ι nt a,bW ι nt tm a->a.eval s=ak ι (.bt id off len skip)) (hxv:∀ι nt a,bW ι nt tm a->a.eval x=ak ι v)
  (hsrc:∀B w0 ι w,Core B w0 ι hp w->HA P (ae P e) v ls ι w) (hev:zl (ae P e) ls=true) (h:s8 hp nx e (ae P e) (.bt id off len skip) ls k=.ok):jS P o tm hp nx k:=by
 obtain⟨i,zv,q1,q2,q3,q4⟩:=cJ hz;simp only[za]at hg;obtain⟨g1,g2,g3⟩:=hg;have g1:=aK g1;have g2:=ai g2;have g3:=av g3;have hbytes:P.bytesOf e=i.bytes:=by unfold Program.bytesOf;rw[q1];rfl
 have hT:KF P ts tx e i zv d:=⟨hts,htx,hni,q1,q2,by omega⟩;have hzs:∀ι:En,zv.cells.size=ae P e:=fun ι=>by rw[<-eR 8 zv z q3 ι,bZ];simp[aq,g2]
 have hrun:∀(a:Act) (w:World),(execOp a.eval o).run P w=((Builtin.append_ #[ts,tx] o.type #[a.eval s,a.eval x]).run P w).andThen fun v w'=>.ok (.value v) w':=fun a w=>tX ho hc ht hx (fun _ _ _ _=>rfl);obtain⟨_,h⟩:=aJ h;obtain⟨he,hfl⟩:=tU _ hev;have nwone:∀ι:En,∀v∈ao ι ls.flatten,vk v=true:=fun ι=>jw ι _ hfl;simp only[aG]at h;obtain⟨ob,hob,h⟩:=dt h;cases ob with
 |cG f ep e9 es n el c0 =>
  obtain⟨hq,h1⟩:=aJ h;simp only[za]at hq;obtain⟨hsm,a1,a2,a3,a4⟩:=hq;have hel0:=ai a4;have a1:=ai a1;have a2:=ai a2;have a3:=aK a3;subst a1;subst a2;obtain⟨s0,hf,h2⟩:=pV h1;rcases bQ h2 with ⟨hb,h3⟩|⟨hb,h3⟩
  ·have hb:=aK hb;obtain⟨hp1,h4,hf1,_,hput⟩:=kJ _ _ _ _ _ _ h3
   have key:FA P o tm hp nx (.bt id (skip*ae P e) (len+ls.length) skip) hp1:=by
    refine⟨hput.1 nx,fun B w0 ι nt a w hw ha hcc=>?_⟩;obtain⟨c1,c2⟩:=hput.2 B w0 ι w nx hw hcc;have hs:=hsrc B w0 ι w hcc;obtain⟨C,fz,b1,b2,b3,b4,b5⟩:=hcc.obj _ _ hob ⟨_,hf⟩;refine⟨_,_,.inl ?_,rfl,c1⟩;rw[hrun,hsv ι nt a ha,hxv ι nt a ha];simp only[ak];have:=hX hT (ty:=o.type) (b:=ι.aS id) (o:=ι.sh id+skip*ae P e) (len:=len) (cap:=ι.kS id-skip) hs.len hs.cells (by omega) (nwone ι) (by rw[aq,zbq (ι.sh id)];exact c2);rw[zbq (ι.sh id)]at this;rw[this];rfl
   exact key.Fz.to h4
  ·have hb:=BX hb
   have fin:∀c':Tr (List AV),qj hp id (skip*ae P e) len (ae P e) ls c'->zk hp nx id f ep (e9&&Nat.beq (skip+len) n) (ae P e) (len+ls.length) (skip+len) el c0 c' k=.ok->jS P o tm hp nx k:=by
    intro c' htree hk;rw[HB]at hk;unfold gU at hsm;rw[za]at hsm;have hsm1:=aK hsm.1;generalize hep':(if (e9&&Nat.beq (skip+len) n)=true then ep else ep+1)=ep' at hk
    have hep:(ep'=ep/\e9=true/\skip+len=n)∨ep'=ep+1:=by
     cases ht:(e9&&Nat.beq (skip+len) n)with
     |true=>rw[ht]at hep';rw[za]at ht;exact .inl ⟨by rw[<-hep'];rfl,ht.1,ai ht.2⟩
     |false=>rw[ht]at hep';exact .inr (by rw[<-hep'];rfl)
    have hep2:ep'=ep∨ep'=ep+1:=hep.imp (·.1) (fun x=>x);refine GU.to (v:=.bt nx 0 (len+ls.length) 0) ⟨by rw[Pz.cw];omega,fun hw=>DI hw hob hf hep2,fun B w0 nt a w ι hs=>?_⟩ hk;obtain⟨t1,c1⟩:=hs.2 ι (al.refl _ _);have hidlt:=hs.1.lt _ _ hob;have hsr:=hsrc B w0 ι w c1;obtain⟨C,fz,b1,b2,b3,b4,b5⟩:=c1.obj _ _ hob ⟨_,hf⟩;by_cases hfit:len+ls.length<=ι.kS id-skip
    ·have hp1:=(tY (nx:=nx) (ι:=ι.at nx (ι.aS id) (ι.sh id+skip*ae P e) (ι.kS id-skip)) hs.1 hob hf hep a3 (by omega) he htree (hs.2 _ (g9 ι nx _ _ _)).2
       (by simp[En.at,show id≠nx from fun e=>by rw[e]at hidlt;omega];exact hfit) (by simp[En.at,show id≠nx from fun e=>by rw[e]at hidlt;omega]) (by simp[En.at,show id≠nx from fun e=>by rw[e]at hidlt;omega]) (by simp[En.at,show id≠nx from fun e=>by rw[e]at hidlt;omega]))
     obtain⟨_,hcan⟩:=hp1;have eb:(ι.at nx (ι.aS id) (ι.sh id+skip*ae P e) (ι.kS id-skip)).aS id=ι.aS id:=by simp[En.at,show id≠nx from fun e=>by rw[e]at hidlt;omega]
     have es':(ι.at nx (ι.aS id) (ι.sh id+skip*ae P e) (ι.kS id-skip)).sh id=ι.sh id:=by simp[En.at,show id≠nx from fun e=>by rw[e]at hidlt;omega]
     rw[eb,es']at hcan;have hrunfit:=hX hT (ty:=o.type) (b:=ι.aS id) (o:=ι.sh id+skip*ae P e) (len:=len) (cap:=ι.kS id-skip) hsr.len hsr.cells hfit (nwone ι) (by rw[aq,df he,zbq (ι.sh id)];exact hcan);rw[zbq (ι.sh id) (skip*ae P e) (len*ae P e)]at hrunfit;refine⟨_,.slice (some ⟨ι.aS id,ι.sh id+skip*ae P e,none⟩) (len+ls.length) (ι.kS id-skip),bm w (ι.aS id) (ι.sh id+(skip*ae P e+len*ae P e)) (ao ι ls.flatten),g9 ι nx (ι.aS id) (ι.sh id+skip*ae P e) (ι.kS id-skip),.inl ?_,fun ι' hι=>?_⟩
     ·rw[hrun,hsv ι nt a t1,hxv ι nt a t1];simp only[ak];rw[hrunfit];rfl
     ·obtain⟨ha,k1,k2,k3⟩:=dw hι;obtain⟨d1,d2,d3⟩:=ha id hidlt;obtain⟨t2,c2⟩:=hs.2 ι' ha;obtain⟨r1,_⟩:=tY (nx:=nx) hs.1 hob hf hep a3 (by omega) he htree c2 (by rw[d3];exact hfit) (by rw[k1,d1]) (by rw[k2,d2]) (by rw[k3,d3])
      have esame:ao ι' ls.flatten=ao ι ls.flatten:=by
       have s2:=(hsrc B w0 ι' w c2).cells;have s1:=hsr.cells;rw[(hxv ι' nt a t2).symm.trans (hxv ι nt a t1)]at s2;rw[s1]at s2;have:=Result.ok.inj s2;have h3:=congrArg Array.toList this.1;simpa using h3.symm
      rw[d1,d2,esame]at r1;refine⟨r1,?_⟩;simp[ak,k1,k2,k3]
    ·have hold:∃old:List Value,old.length=len*ae P e/\∀j,j<len*ae P e->w.cell? ⟨ι.aS id,ι.sh id+(skip*ae P e+j),none⟩=old[j]?:=by
       have hrow:tI ι w id (ae P e) n c0:=⟨C,el,fz,b1,zam (zen (zae _ b3) _) b2,b4,b5⟩;refine v8 hrow ?_;rw[<-zbh];exact zae _ a3
     obtain⟨old,o1,o2⟩:=hold;have hsd:=hsrc B w0 ι w.drew (iy c1)
     obtain⟨cc,rest,r1,r2,r3⟩:=run_append_grow hT (ty:=o.type) (x:=ak ι v) (base:=some ⟨ι.aS id,ι.sh id+skip*ae P e,none⟩) (len:=len) (cap:=ι.kS id-skip) hsr.len hsd.cells
      (qi o1 (fun j hj=>by rw[zbq];exact o2 j hj)) (by omega) hsm1
     refine⟨_,.slice (some ⟨w.heap.size,0,none⟩) (len+ls.length) cc,w.drew.alloc (.cells (old++ao ι ls.flatten++rest).toArray e (0,0)),g9 ι nx w.heap.size 0 cc,.inl ?_,fun ι' hι=>?_⟩
     ·rw[hrun,hsv ι nt a t1,hxv ι nt a t1];simp only[ak];rw[r2];rfl
     ·obtain⟨ha,k1,k2,k3⟩:=dw hι;obtain⟨d1,d2,d3⟩:=ha id hidlt;obtain⟨t2,c2⟩:=hs.2 ι' ha
      have esame:ao ι' ls.flatten=ao ι ls.flatten:=by
       have s2:=(hsrc B w0 ι' w c2).cells;have s1:=hsr.cells;rw[(hxv ι' nt a t2).symm.trans (hxv ι nt a t1)]at s2;rw[s1]at s2;have:=Result.ok.inj s2;have h3:=congrArg Array.toList this.1;simpa using h3.symm
      have hel:el=e:=hel0;subst hel;refine⟨HC (m:=len+ls.length) hs.1 hob hf hep a3 (iy c2) k1 k2 k3 r1 ?_ (htree B w0 ι' w c2 _ 0 (fun i hi=>?_) (fun i hi=>?_)),by simp[ak,k1,k2,k3]⟩
      ·rw[zec,zak,zak,o1,aq,df he,r3,hzs ι,<-zbh,<-zbh];exact zdz (by congr 1;omega)
      ·rw[zaq,zao,zbc,zau (by omega),<-o2 i hi,d1,d2]
      ·rw[zaq,zao,zbc,zay (by omega),o1,zcr,zau (by rw[aq,df he];exact hi),<-esame,bu]
   rcases bQ h3 with ⟨hs0,h4⟩|⟨_,h4⟩
   ·have hs0:=ai hs0;subst hs0;rw[lS]at h4;exact fin _ (FG hob hf (by omega) he) h4
   ·obtain⟨pre,h5,hl,hpre⟩:=gX _ _ _ _ _ _ h4;rw[lS]at h5;exact fin _ (FH hl hpre he) h5
 |_=>cases h
end
end Go.aI
namespace Go.aI
open Go.RowKit
section
variable {hp:Tr AO}{id:Pz}{x y:AO}
theorem qk {nx:Pz}(hw:Wf hp nx)(ho:hp.get id=some x)(hx1:iu x=none)(hx2:∀e s,x≠.dJ e s)(hy1:iu y=none)(hy2:∀e s,y≠.dJ e s):Wf (hp.set id y) nx:=by
 refine⟨?_,?_,?_,?_⟩
 ·intro i o h;rcases ah h with ⟨hi,_⟩|⟨_,h⟩
  ·exact hi▸hw.lt _ _ ho
  ·exact hw.lt _ _ h
 ·intro i f e tp es n el c h;rcases ah h with ⟨_,h⟩|⟨_,h⟩
  ·rw[h]at hy1;cases hy1
  ·exact hw.dJ _ _ _ _ _ _ _ _ h
 ·intro i f e tp es n el c e' s h h';rcases ah h with ⟨_,h⟩|⟨_,h⟩
  ·rw[h]at hy1;cases hy1
  ·rcases ah h' with ⟨_,h'⟩|⟨_,h'⟩
   ·exact absurd h' (hy2 _ _)
   ·exact hw.ep _ _ _ _ _ _ _ _ _ _ h h'
 ·intro f e i i' tp es n el c tp' es' n' el' c' h h1 h2;rcases ah h with ⟨_,h⟩|⟨_,h⟩
  ·exact absurd h (hy2 _ _)
  ·rcases ah h1 with ⟨_,h1⟩|⟨_,h1⟩
   ·rw[h1]at hy1;cases hy1
   ·rcases ah h2 with ⟨_,h2⟩|⟨_,h2⟩
    ·rw[h2]at hy1;cases hy1
    ·exact hw.ix _ _ _ _ _ _ _ _ _ _ _ _ _ _ h h1 h2
theorem FI (hx1:iu x=none)(hx2:∀e s,x≠.dJ e s)(hp:Tr AO):own hp x:=by
 cases x with
 |cG=>cases hx1
 |dJ e s=>exact absurd rfl (hx2 e s)
 |_=>trivial
theorem kX {B:Nat->Prop}{w0 w w':World}{ι:En}(ho:hp.get id=some x)(hx1:iu x=none)(hx2:∀e s,x≠.dJ e s)(hy1:iu y=none)(hy2:∀e s,y≠.dJ e s)(hc:Core B w0 ι hp w)(hbelow:Kept B w0 w')(hroom:∀k,B k->k<w'.heap.size)
  (hother:∀b,b≠ι.aS id->w'.heap[b]?=w.heap[b]?) (hob:ji ι (hp.set id y) w' id y):Core B w0 ι (hp.set id y) w':=by
 have hown:∀o,own (hp.set id y) o->own hp o:=by
  intro o h;cases o with
  |cG f e tp es n el c =>
   obtain⟨s,hs⟩:=h;rcases ah hs with ⟨_,h'⟩|⟨_,h'⟩
   ·exact absurd h' (hy2 e s)
   ·exact⟨s,h'⟩
  |_=>exact h
 have hxo:=FI hx1 hx2 hp
 have hne:∀i o,i≠id->hp.get i=some o->own hp o->ι.aS i≠ι.aS id:=by
  intro i o hi h ho' e;obtain⟨f,_,h2⟩:=hc.sep i id o x hi h ho ho' hxo e;rw[hx1]at h2;cases h2
 refine⟨hbelow,hroom,?_,?_,?_,?_⟩
 ·intro i o h;rcases ah h with ⟨hi,rfl⟩|⟨hi,h⟩
  ·rw[hi];exact hob
  ·exact (hc.obj _ _ h).bE (hown o) fun h2=>hother _ (hne i o hi h (hown o h2))
 ·intro i o h h2;rcases ah h with ⟨hi,_⟩|⟨hi,h⟩
  ·rw[hi];exact hc.base _ _ ho hxo
  ·exact hc.base _ _ h (hown o h2)
 ·intro i i' o o' hii h h' h2 h2' e;rcases ah h with ⟨hi,_⟩|⟨hi,h⟩
  ·rcases ah h' with ⟨hi',_⟩|⟨hi',h'⟩
   ·exact absurd (hi.trans hi'.symm) hii
   ·rw[hi]at e;exact absurd e.symm (hne i' o' hi' h' (hown o' h2'))
  ·rcases ah h' with ⟨hi',_⟩|⟨hi',h'⟩
   ·rw[hi']at e;exact absurd e (hne i o hi h (hown o h2))
   ·exact hc.sep _ _ _ _ hii h h' (hown o h2) (hown o' h2') e
 ·intro i i' f e es n el c f' e' tp' es' n' el' c' hii h h' hl hl';rcases ah h with ⟨_,h⟩|⟨_,h⟩
  ·rw[h]at hy1;cases hy1
  ·rcases ah h' with ⟨_,h'⟩|⟨_,h'⟩
   ·rw[h']at hy1;cases hy1
   ·exact hc.e9 _ _ _ _ _ _ _ _ _ _ _ _ _ _ _ hii h h' (hown (.cG f e true es n el c) hl) (hown (.cG f' e' tp' es' n' el' c') hl')
end
end Go.aI
namespace Go.aI
open Go.RowKit
section
variable {P:Program}{call:bP}{r:Option Nat}
def fO (B:Nat->Prop)(w0:World)(nt:Nat)(ι:En)(nx:Pz)(K:Tm->Tr AO->Pz->Rs)(next:Act->World->Prop):Prop :=
 ∀tm' hp' nx' ι2 a' w',K tm' hp' nx'=.ok->nx.num<=nx'.num->al nx ι ι2->Sat B w0 nt tm' hp' nx' ι2 a' w'->next a' w'
theorem fO.oq {B:Nat->Prop}{w0:World}{nt:Nat}{ι ι2:En}{nx nx':Pz}{K:Tm->Tr AO->Pz->Rs}{next:Act->World->Prop}(h:fO B w0 nt ι nx K next)(hle:nx.num<=nx'.num)(ha:al nx ι ι2):fO B w0 nt ι2 nx' K next :=
 fun tm' hp' nx'' ι3 a' w' hk hle' ha' hs=>h tm' hp' nx'' ι3 a' w' hk (zam hle hle') (ha.trans ha' hle) hs
theorem ql (xs:Array Value)(i j:Nat)(v d:Value)(h:i<xs.size):(xs.setIfInBounds i v).getD j d=if j=i then v else xs.getD j d:=by
 simp only[zah,zdo];by_cases hj:i=j
 ·subst hj;simp[h]
 ·rw[if_neg hj,if_neg (fun e=>hj e.symm)]
theorem kY {ι:En}{nt:Nat}{tm:Tm}{a:Act}{t:Nat}{v:AV}{cv:Value}(h:bW ι nt tm a)(ht:t<nt)(hv:cv=ak ι v):bW ι nt (tm.put t v) (a.put (some t) cv):=by
 refine⟨by simp[Act.put,h.size],by rw[Tm.oJ];exact h.defers,fun j=>?_⟩;simp only[Act.put];rw[ql _ _ _ _ _ (by rw[h.size];exact ht)];by_cases hj:j=t
 ·subst hj;rw[if_pos rfl,Tm.ec,hv]
 ·rw[if_neg hj,Tm.fT hj];exact h.val j
theorem nS (a b:Bool):oG a b=(a==b):=by cases a<;>cases b<;>rfl
def ot (P:Program)(call:bP):Prop:=∀o tm hp nx k,(zs P o).run call tm hp nx k=.ok->jS P o tm hp nx k
theorem HD {o:Oper}{b:OB}{nt:Nat}{tm:Tm}{hp:Tr AO}{nx:Pz}{K:Tm->Tr AO->Pz->Rs}(hb:∀k,b.run call tm hp nx k=.ok->jS P o tm hp nx k)(h:(lJ nt o.dst b).run call tm hp nx K=.ok)
  {B:Nat->Prop} {w0 w:World} {ι:En} {a:Act} (hs:Sat B w0 nt tm hp nx ι a w) {next:Act->World->Prop} (hn:fO B w0 nt ι nx K next):dh P (execOp a.eval o) w (fun cv w'=>next (a.put o.dst cv) w'):=by
 unfold lJ at h;cases hd:o.dst with
 |none =>
  rw[hd]at h;refine hb _ h B w0 nt a w ι hs _ (fun v hp' nx' ι2 cv w' hk hw hle ha hc=>?_);refine hn tm hp' nx' ι2 a w' hk hle ha ⟨hw,fun ι' hι=>⟨?_,(hc ι' hι).1⟩⟩;exact (hs.2 ι' (ha.trans hι hle)).1
 |some t =>
  rw[hd]at h;simp only at h;cases hlt:Nat.blt t nt with
  |false=>rw[hlt]at h;cases h
  |true =>
   rw[hlt]at h;refine hb _ h B w0 nt a w ι hs _ (fun v hp' nx' ι2 cv w' hk hw hle ha hc=>?_);have hk:=(lM t tm v fun tm=>K tm hp' nx').symm.trans hk;refine hn _ hp' nx' ι2 _ w' hk hle ha ⟨hw,fun ι' hι=>?_⟩;obtain⟨c1,c2⟩:=hc ι' hι;exact⟨kY (hs.2 ι' (ha.trans hι hle)).1 (av hlt) c2,c1⟩
theorem KH {o:Oper}{nt:Nat}{tm:Tm}{hp:Tr AO}{nx:Pz}{K:Tm->Tr AO->Pz->Rs}(h:(lJ nt o.dst (dV fun _ k=>k aE)).run call tm hp nx K=.ok)
  {B:Nat->Prop} {w0 w:World} {ι:En} {a:Act} (hs:Sat B w0 nt tm hp nx ι a w) {next:Act->World->Prop} (hn:fO B w0 nt ι nx K next):next (a.put o.dst undef) w:=by
 unfold lJ at h;cases hd:o.dst with
 |none=>rw[hd]at h;exact hn tm hp nx ι a w h (zad _) (al.refl _ _) hs
 |some t =>
  rw[hd]at h;simp only at h;cases hlt:Nat.blt t nt with
  |false=>rw[hlt]at h;cases h
  |true =>
   rw[hlt]at h;have h:(tC t).run tm aE (fun tm=>K tm hp nx)=.ok:=h;rw[lM]at h;exact hn _ hp nx ι _ w h (zad _) (al.refl _ _) ⟨hs.1,fun ι' hι=>⟨kY (hs.2 ι' hι).1 (av hlt) (du ι').symm,(hs.2 ι' hι).2⟩⟩
theorem iz {ops:Array Oper}{nt j d:Nat}{tm:Tm}{a:Act}{ι:En}(hd:mQ ops nt j=some d)(ha:bW ι nt tm a) :
  yielded ops a.tmps j=match tm.at d with|.bool b=>some b|_=>none:=by
 unfold mQ at hd;cases ho:(ops[j]?).bind (·.dst)with
 |none=>rw[ho]at hd;cases hd
 |some d' =>
  rw[ho]at hd;simp only at hd;split at hd
  ·cases hd;rename_i hlt;have hlt:=av hlt;unfold yielded;rw[ho];have hv:=ha.val d
   have hin:a.tmps[d]?=some (a.tmps.getD d undef):=by
    rw[zbe (by rw[ha.size];exact hlt)];simp[Array.getD,ha.size,hlt]
   simp only[zcb,hin,hv];cases tm.at d<;>simp[ak]
  ·cases hd
theorem KI (hops:ot P call){ops:Array Oper}{i:Nat}{o:Oper}{nt:Nat}{tm:Tm}{hp:Tr AO}{nx:Pz}{K:Tm->Tr AO->Pz->Rs}(hi:ops[i]?=some o)(h:(fb P nt ops o).run call tm hp nx K=.ok)
  {B:Nat->Prop} {w0 w:World} {ι:En} {a:Act} (hs:Sat B w0 nt tm hp nx ι a w) {rest:List Nat} {Q:Exit->Act->World->Prop} (hn:fO B w0 nt ι nx K (wpOpsIn (fw r) 0 P ops Q rest)):wpOpsIn (fw r) 0 P ops Q (i::rest) a w:=by
 unfold wpOpsIn;rw[hi];simp only;unfold fb at h;cases hg:o.guard with
 |none =>
  rw[hg]at h;rw[if_pos (by simp[Region.wanted,hg])];exact (HD (fun k hk=>hops o tm hp nx k hk) h hs hn).wp fun _ _ h=>h
 |some g =>
  obtain⟨j,want⟩:=g;rw[hg]at h;simp only at h;cases hd:mQ ops nt j with
  |none=>rw[hd]at h;cases h
  |some d =>
   rw[hd]at h
   have h:(pK d).run tm (fun v=>G8 v ((lJ nt o.dst (dV fun _ k=>k aE)).run call tm hp nx K) fun b =>
    bV (oG b want) ((lJ nt o.dst (zs P o)).run call tm hp nx K) ((lJ nt o.dst (dV fun _ k=>k aE)).run call tm hp nx K))=.ok:=h
   rw[lL]at h;have hy:=iz hd (hs.2 ι (al.refl _ _)).1
   have no:yielded ops a.tmps j≠some want->(lJ nt o.dst (dV fun _ k=>k aE)).run call tm hp nx K=.ok->(if Region.wanted o (yielded ops a.tmps)=true then o.wpIn (fw r) 0 P a w (wpOpsIn (fw r) 0 P ops Q rest) Q else (∀f,o.about P w a.eval=some f->(fw r).fn f)/\wpOpsIn (fw r) 0 P ops Q rest (a.put o.dst undef) w):=by
    intro hne hp';rw[if_neg (by simp[Region.wanted,hg];exact hne)];exact⟨fun _ _=>trivial,KH hp' hs hn⟩
   cases hv:tm.at d with
   |bool b =>
    rw[hv]at h hy;rcases bQ h with ⟨hb,h⟩|⟨hb,h⟩
    ·have hb:b=want:=by rw[nS]at hb;simpa using hb
     rw[if_pos (by simp[Region.wanted,hg,hy,hb])];exact (HD (fun k hk=>hops o tm hp nx k hk) h hs hn).wp fun _ _ h=>h
    ·have hb:b≠want:=by rw[nS]at hb;simpa using hb
     exact no (by rw[hy];simp[hb]) h
   |_=>rw[hv]at h hy;exact no (by rw[hy];simp) h
theorem v9 (hops:ot P call){ops:Array Oper}{nt:Nat}{Q:Exit->Act->World->Prop}:∀(l:List Oper)(i:Nat)(tm:Tm)(hp:Tr AO)(nx:Pz)(K:Tm->Tr AO->Pz->Rs),ops.toList.drop i=l->(dq P nt ops l).run call tm hp nx K=.ok ->
  ∀{B:Nat->Prop} {w0 w:World} {ι:En} {a:Act},Sat B w0 nt tm hp nx ι a w->fO B w0 nt ι nx K (Q .normal)->wpOpsIn (fw r) 0 P ops Q (List.range' i l.length) a w
 | [],i,tm,hp,nx,K,hl,h,B,w0,w,ι,a,hs,hn=>hn tm hp nx ι a w h (zad _) (al.refl _ _) hs
 |o::l,i,tm,hp,nx,K,hl,h,B,w0,w,ι,a,hs,hn=>by
  have hi:ops[i]?=some o:=by
   have:=congrArg (·[0]?) hl;simpa using this
  have hl':ops.toList.drop (i+1)=l:=by
   have:=congrArg (List.drop 1) hl;simpa using this
  rw[zbi,List.range'_succ];refine KI hops hi (K:=fun tm hp nx=>(dq P nt ops l).run call tm hp nx K) h hs (fun tm' hp' nx' ι2 a' w' hk hle ha hs'=>?_);exact v9 hops l (i+1) tm' hp' nx' K hl' hk hs' (hn.oq hle ha)
end
end Go.aI
namespace Go.aI
open Go.RowKit
def QY:Ex->Exit
 |.eJ=>.normal
 |.ext id=>.exit id
 |.ret=>.ret
section
variable {P:Program}{call:bP}{r:Option Nat}
theorem z0 {b:Frame}{a:Act}{k:List Item}{cs:List Frame}{w:World}{c:Code}:step P (lone (b.atR a (.code (.scope c)::k)) cs w)=.next (lone (b.atR a (.code c::.inScope c::k)) cs w) :=
 step_lone_go (by simp[stepG,stepG.exec,Frame.atR])
theorem vo {b:Frame}{a:Act}{k:List Item}{cs:List Frame}{w:World}{c:Code}:step P (lone (b.atR a (.inScope c::k)) cs w)=.next (lone (b.atR a k) cs w) :=
 step_lone_go (by simp[stepG,stepG.exec,Frame.atR])
theorem n9 {F:Fence}{n:Nat}{c:Code}{Q:Exit->Act->World->Prop}{a:Act}{w:World}(h:c.wpIn F n P (Exit.noGoto Q) a w):(Code.scope c).wpIn F n P Q a w:=by
 intro b k cs hro hb hr;obtain⟨e,a₁,w₁,hq,harr⟩:=h b (.inScope c::k) cs hro hb hr;have h0:StepsIn (Machine.fenced P F) P (lone (b.atR a (.code (.scope c)::k)) cs w) (lone (b.atR a (.code c::.inScope c::k)) cs w):=.one (fenced_calm hb hr rfl) z0;cases e with
 |normal=>exact⟨.normal,a₁,w₁,hq,.of_steps h0 (StepsIn.trans harr (.one (fenced_calm hb hr rfl) vo))⟩
 |exit id=>exact⟨.exit id,a₁,w₁,hq,.of_steps h0 ⟨fun k' hk=>harr.1 k' (by simp[exitTo,hk]),fun hs hk=>harr.2 hs (by simp[exitTo,hk])⟩⟩
 |goto l=>exact hq.elim
 |ret=>exact⟨_,a₁,w₁,hq,.of_steps h0 harr⟩
 |panic ch=>exact⟨_,a₁,w₁,hq,.of_steps h0 harr⟩
 |outgrown=>exact⟨_,a₁,w₁,hq,.of_steps h0 harr⟩
def oO (B:Nat->Prop)(w0:World)(nt:Nat)(ι:En)(nx:Pz)(K:Ex->Tm->Tr AO->Pz->Rs)(Q:Exit->Act->World->Prop):Prop :=
 ∀e tm' hp' nx' ι2 a' w',K e tm' hp' nx'=.ok->nx.num<=nx'.num->al nx ι ι2->Sat B w0 nt tm' hp' nx' ι2 a' w'->Q (QY e) a' w'
theorem oO.oq {B:Nat->Prop}{w0:World}{nt:Nat}{ι ι2:En}{nx nx':Pz}{K:Ex->Tm->Tr AO->Pz->Rs}{Q:Exit->Act->World->Prop}(h:oO B w0 nt ι nx K Q)(hle:nx.num<=nx'.num)(ha:al nx ι ι2):oO B w0 nt ι2 nx' K Q :=
 fun e tm' hp' nx'' ι3 a' w' hk hle' ha' hs=>h e tm' hp' nx'' ι3 a' w' hk (zam hle hle') (ha.trans ha' hle) hs
def B2 (P:Program)(call:bP)(nt:Nat):Prop:=∀id ops plan tm hp nx K,tH P ops plan=true->(oj P nt ops plan).run call tm hp nx K=.ok ->
 ∀r B w0 w ι a,Sat B w0 nt tm hp nx ι a w->∀Q,fO B w0 nt ι nx K (Q .normal)->(Code.region id ops true).wpIn (fw r) 0 P Q a w
def xF (P:Program)(call:bP):Prop:=∀fid nt g ps x y tm hp nx K,oH P fid nt g ps x y call tm hp nx K=.ok->cQ x=true->cQ y=true ->
 ∀B w0 w ι a,Sat B w0 nt tm hp nx ι a w->∀Q,oO B w0 nt ι nx K Q->(Code.rangeFunc g ps x y).wpIn (fw none) 0 P Q a w
theorem DJ (hops:ot P call){nt:Nat}(hdraw:B2 P call nt)(hrange:xF P call){fid:Nat}{pl:Nat->List Ph}:∀(c:Code),dL P pl c=true->(r=none∨cQ c=true)->∀(fu:Nat)(tm:Tm)(hp:Tr AO)(nx:Pz)(K:Ex->Tm->Tr AO->Pz->Rs),(zt P fid nt pl c).run fu call tm hp nx K=.ok ->
  ∀{B:Nat->Prop} {w0 w:World} {ι:En} {a:Act},Sat B w0 nt tm hp nx ι a w->∀{Q:Exit->Act->World->Prop},oO B w0 nt ι nx K Q->c.wpIn (fw r) 0 P Q a w:=by
 intro c
 induction c with
 |skip=>intro hpl hrf fu tm hp nx K h B w0 w ι a hs Q hn;exact wpIn_skip (hn .eJ tm hp nx ι a w h (zad _) (al.refl _ _) hs)
 |region id ops draw =>
  intro hpl hrf fu tm hp nx K h B w0 w ι a hs Q hn;cases draw with
  |false =>
   refine wpIn_region ?_;have h:(dq P nt ops ops.toList).run call tm hp nx (fun tm hp nx=>K .eJ tm hp nx)=.ok:=h;have:=v9 (r:=r) hops (Q:=Q) ops.toList 0 tm hp nx _ rfl h hs (fun tm' hp' nx' ι2 a' w' hk hle ha hs'=>hn .eJ tm' hp' nx' ι2 a' w' hk hle ha hs');rw[List.range_eq_range',<-zdj];exact this
  |true=>exact hdraw id ops (pl id) tm hp nx _ hpl h r B w0 w ι a hs Q (fun tm' hp' nx' ι2 a' w' hk hle ha hs'=>hn .eJ tm' hp' nx' ι2 a' w' hk hle ha hs')
 |seq x y ihx ihy =>
  intro hpl hrf fu tm hp nx K h B w0 w ι a hs Q hn;refine wpIn_seq (ihx (by simp only[dL,za]at hpl;exact hpl.1) (hrf.imp_right fun h=>by simp only[cQ,za]at h;exact h.1) fu tm hp nx _ h hs (fun e tm' hp' nx' ι2 a' w' hk hle ha hs'=>?_));cases e with
  |eJ=>exact ihy (by simp only[dL,za]at hpl;exact hpl.2) (hrf.imp_right fun h=>by simp only[cQ,za]at h;exact h.2) fu tm' hp' nx' K hk hs' (hn.oq hle ha)
  |ext id=>exact hn (.ext id) tm' hp' nx' ι2 a' w' hk hle ha hs'
  |ret=>exact hn .ret tm' hp' nx' ι2 a' w' hk hle ha hs'
 |cond c x y ihx ihy =>
  intro hpl hrf fu tm hp nx K h B w0 w ι a hs Q hn;obtain⟨v,h,hv⟩:=aM h;obtain⟨b,rfl,g⟩:=vN h;have hc:a.eval c=.bool b:=by rw[hv ι nt a (hs.2 ι (al.refl _ _)).1];simp[ak]
  cases b with
  |true=>exact wpIn_cond_true hc (ihx (by simp only[dL,za]at hpl;exact hpl.1) (hrf.imp_right fun h=>by simp only[cQ,za]at h;exact h.1) fu tm hp nx K g hs hn)
  |false=>exact wpIn_cond_false hc (ihy (by simp only[dL,za]at hpl;exact hpl.2) (hrf.imp_right fun h=>by simp only[cQ,za]at h;exact h.2) fu tm hp nx K g hs hn)
 |block id x ih =>
  intro hpl hrf fu tm hp nx K h B w0 w ι a hs Q hn;refine wpIn_block (ih hpl hrf fu tm hp nx _ h hs (fun e tm' hp' nx' ι2 a' w' hk hle ha hs'=>?_));cases e with
  |eJ=>exact hn .eJ tm' hp' nx' ι2 a' w' hk hle ha hs'
  |ext j =>
   show if j=id then Q .normal a' w' else Q (.exit j) a' w'
   rcases bQ hk with ⟨hj,hk⟩|⟨hj,hk⟩
   ·rw[if_pos (ai hj)];exact hn .eJ tm' hp' nx' ι2 a' w' hk hle ha hs'
   ·rw[if_neg (qW hj)];exact hn (.ext j) tm' hp' nx' ι2 a' w' hk hle ha hs'
  |ret=>exact hn .ret tm' hp' nx' ι2 a' w' hk hle ha hs'
 |loop x ih =>
  intro hpl hrf fu tm hp nx K h B w0 w ι a hs Q hn
  have key:∀(m:Nat) (tm:Tm) (hp:Tr AO) (nx:Pz) (w:World) (ι:En) (a:Act),(Nat.rec (motive:=fun _=>Tm->Tr AO->Pz->Rs) (fun _ _ _=>Rs.bad 180)
   (fun _ ih tm hp nx=>(zt P fid nt pl x).run fu call tm hp nx fun e tm hp nx=>Ex.rec (motive:=fun _=>Rs) (ih tm hp nx) (fun j=>K (.ext j) tm hp nx) (K .ret tm hp nx) e) m) tm hp nx=.ok->Sat B w0 nt tm hp nx ι a w->oO B w0 nt ι nx K Q->Code.roundsIn (fw r) 0 P x Q m a w:=by
   intro m
   induction m with
   |zero=>intro tm hp nx w ι a h;cases h
   |succ m ihm =>
    intro tm hp nx w ι a h hs hn;rw[roundsIn_succ];refine ih hpl hrf fu tm hp nx _ h hs (fun e tm' hp' nx' ι2 a' w' hk hle ha hs'=>?_);cases e with
    |eJ=>exact ihm tm' hp' nx' w' ι2 a' hk hs' (hn.oq hle ha)
    |ext j=>exact hn (.ext j) tm' hp' nx' ι2 a' w' hk hle ha hs'
    |ret=>exact hn .ret tm' hp' nx' ι2 a' w' hk hle ha hs'
  exact wpIn_loop_rounds fu (key fu tm hp nx w ι a h hs hn)
 |rangeFunc f ps x y _ _ =>
  intro hpl hrf fu tm hp nx K h B w0 w ι a hs Q hn;rcases hrf with rfl|hrf
  ·simp only[dL,za]at hpl;exact hrange fid nt f ps x y tm hp nx K h hpl.1 hpl.2 B w0 w ι a hs Q hn
  ·cases hrf
 |exit id=>intro hpl hrf fu tm hp nx K h B w0 w ι a hs Q hn;exact wpIn_exit (hn (.ext id) tm hp nx ι a w h (zad _) (al.refl _ _) hs)
 |scope x ih =>
  intro hpl hrf fu tm hp nx K h B w0 w ι a hs Q hn;refine n9 (ih hpl hrf fu tm hp nx K h hs (fun e tm' hp' nx' ι2 a' w' hk hle ha hs'=>?_));have:=hn e tm' hp' nx' ι2 a' w' hk hle ha hs';cases e<;>exact this
 |label l=>intro hpl hrf fu tm hp nx K h B w0 w ι a hs Q hn;exact wpIn_label (hn .eJ tm hp nx ι a w h (zad _) (al.refl _ _) hs)
 |goto l=>intro hpl hrf fu tm hp nx K h;cases h
 |ret=>intro hpl hrf fu tm hp nx K h B w0 w ι a hs Q hn;exact wpIn_ret (hn .ret tm hp nx ι a w h (zad _) (al.refl _ _) hs)
 |refuse s=>intro hpl hrf fu tm hp nx K h;cases h
end
end Go.aI
namespace Go.aI
open Go.RowKit
section
variable {P:Program}
def xG (P:Program)(f:Nat)(args:List AV)(hp:Tr AO)(nx:Pz)(k:AV->Tr AO->Pz->Rs):Prop :=
 ∀B w0 w ι (cargs:Array Value),Wf hp nx->(∀ι',al nx ι ι'->Core B w0 ι' hp w/\cargs=(ao ι' args).toArray)->∀G:Value->World->Prop,Hu B w0 ι nx k G->dh P (callFunc f cargs) w G
def HE (P:Program)(call:bP):Prop:=∀f nt c tm hp nx K,call.code f nt c tm hp nx K=.ok->cQ c=true->∀l B w0 w ι a,Sat B w0 nt tm hp nx ι a w->∀Q,oO B w0 nt ι nx K Q->c.wpIn (fw (some l)) 0 P Q a w
def q8 (P:Program)(call:bP):Prop:=(∀f args hp nx k,call.run f args hp nx k=.ok->xG P f args hp nx k)/\HE P call
def DK (P:Program)(call:bP):Prop:=∀j vs hp nx k,xj call j vs hp nx k=.ok->∀B w0 w ι (cargs:Array Value),Wf hp nx->(∀ι',al nx ι ι'->Core B w0 ι' hp w/\cargs=(ao ι' vs).toArray)->∀G:Value->World->Prop,Hu B w0 ι nx k G ->
 dh P (Instr.yield (ι.aS (aX (j-1))) cargs) w G
theorem xH (a b:List AV):sJ a b=a++b:=by
 induction a with
 |nil=>rfl
 |cons x a ih=>show x::sJ a b=_;rw[ih];rfl
theorem KJ {call:bP}(hcall:q8 P call)(hyield:DK P call){o:Oper}{c:Call}{f:Operand}{tm:Tm}{hp:Tr AO}{nx:Pz}{k:AV->Tr AO->Pz->Rs}(ho:o.op=.call c)(hc:c.callee=.value f)
  (h:((cH f).run tm fun fv=>zh c.args.toList tm fun vs=>BM fv (.bad 122) fun f first captured=>match f with
   |.func g=>call.run g (sJ first (sJ vs captured)) hp nx k
   |.yield j=>List.rec (motive:=fun _=>Rs) (List.rec (motive:=fun _=>Rs) (xj call j vs hp nx k) (fun _ _ _=>.bad 122) captured) (fun _ _ _=>.bad 122) first
   |_=>.bad 122)=.ok):jS P o tm hp nx k:=by
 obtain⟨fv,h,hfv⟩:=aM h;obtain⟨vs,h,hvs⟩:=tb _ h;cases fv with
 |func fn first captured =>
  cases fn with
  |func g =>
   intro B w0 nt a w ι hs G hn
   have hrun:(execOp a.eval o).run P w=(callFunc g (ao ι (sJ first (sJ vs captured))).toArray).run P w:=by
    obtain⟨t1,c1⟩:=hs.2 ι (al.refl _ _);have hargs:c.args.map a.eval=(ao ι vs).toArray:=by rw[map_mk,hvs ι nt a t1]
    simp only[execOp,ho,resolve,hc,hargs,hfv ι nt a t1,ak,jV,Deferred.ofValue,Sem.run_bind,Sem.run_pure,Result.andThen_ok,invoke];congr 2;rw[xH,xH,fe,fe];simp
   have hargs':∀ι',al nx ι ι'->(ao ι (sJ first (sJ vs captured))).toArray=(ao ι' (sJ first (sJ vs captured))).toArray:=by
    intro ι' hι;obtain⟨t1,c1⟩:=hs.2 ι (al.refl _ _);obtain⟨t2,c2⟩:=hs.2 ι' hι;have e1:=hvs ι nt a t1;have e2:=hvs ι' nt a t2;have e3:=hfv ι nt a t1;have e4:=hfv ι' nt a t2;rw[e3]at e4;simp only[ak,Value.func.injEq,Array.mk.injEq,true_and]at e4;rw[e1]at e2;simp only[xH,fe,e4.1,e4.2,e2]
   have:=hcall.1 g _ hp nx k h B w0 w ι _ hs.1 (fun ι' hι=>⟨(hs.2 ι' hι).2,hargs' ι' hι⟩) G hn;unfold dh at this ⊢;rw[hrun];exact this
  |yield j =>
   cases first with
   |cons x xs=>cases h
   |nil =>
    cases captured with
    |cons x xs=>cases h
    |nil =>
     intro B w0 nt a w ι hs G hn
     have hrun:(execOp a.eval o).run P w=(Instr.yield (ι.aS (aX (j-1))) (ao ι vs).toArray).run P w:=by
      obtain⟨t1,c1⟩:=hs.2 ι (al.refl _ _);have hargs:c.args.map a.eval=(ao ι vs).toArray:=by rw[map_mk,hvs ι nt a t1]
      simp only[execOp,ho,resolve,hc,hargs,hfv ι nt a t1,ak,jV,ao,Deferred.ofValue,Sem.run_bind,Sem.run_pure,Result.andThen_ok,invoke];congr 2;simp
     have:=hyield j vs hp nx k h B w0 w ι (ao ι vs).toArray hs.1 (fun ι' hι=>⟨(hs.2 ι' hι).2,by
      obtain⟨t1,c1⟩:=hs.2 ι (al.refl _ _);obtain⟨t2,c2⟩:=hs.2 ι' hι
      rw[<-hvs ι nt a t1,<-hvs ι' nt a t2]⟩) G hn
     unfold dh at this ⊢;rw[hrun];exact this
  |_=>cases h
 |_=>cases h
def iX (tmps:Array Value)(r:ResultVar):Sem Value :=
 match r with
 |.tmp t=>pure (tmps.getD t undef)
 |.cell x t=>do loadVar t (<-Go.asAddr (tmps.getD x undef))
theorem FJ {r:ResultVar}{tm:Tm}{hp:Tr AO}{k:AV->Rs}(h:BW P r tm hp k=.ok):∃v,k v=.ok/\∀B w0 ι nt a w,bW ι nt tm a->Core B w0 ι hp w ->
  (iX a.tmps r).run P w=.ok (ak ι v) w:=by
 cases r with
 |tmp t =>
  have h:(pK t).run tm k=.ok:=h;rw[lL]at h;exact⟨_,h,fun B w0 ι nt a w ha hc=>by simp only[iX,Sem.run_pure,ha.val t]⟩
 |cell x t =>
  unfold BW at h;simp only[lL]at h;obtain⟨id,off,hv,g⟩:=gW h;cases hk:cD P t with
  |false=>rw[hk]at g;cases g
  |true =>
   obtain⟨d,hd⟩:=kV hk;cases ht:dZ P t with
   |true =>
    rw[hk,ht]at g;obtain⟨l,g,hl⟩:=lP (k:=fun cs=>k (.agg cs)) g;refine⟨_,g,fun B w0 ι nt a w ha hc=>?_⟩;obtain⟨h1,h2⟩:=hl B w0 ι w hc;have e:=ha.val x;rw[hv]at e;simp only[iX,e,ak,Go.asAddr,Sem.run_bind,Sem.run_pure,Result.andThen_ok,loadVar,iK hd,ht,if_true,gY hd];rw[nR h2 h1];simp
   |false =>
    rw[hk,ht]at g;obtain⟨u,g,hu⟩:=rW g;refine⟨u,g,fun B w0 ι nt a w ha hc=>?_⟩;have e:=ha.val x;rw[hv]at e;simp only[iX,e,ak,Go.asAddr,Sem.run_bind,Sem.run_pure,Result.andThen_ok,loadVar,iK hd,ht,zag,if_false];rw[gy (hu B w0 ι w hc)]
theorem wa:∀(rs:List ResultVar){tm:Tm}{hp:Tr AO}{k:List AV->Rs},oI P rs tm hp k=.ok->∃vs,k vs=.ok/\∀B w0 ι nt a w,bW ι nt tm a->Core B w0 ι hp w ->
  (rs.mapM (iX a.tmps)).run P w=.ok (ao ι vs) w
 | [],tm,hp,k,h=>⟨[],h,fun B w0 ι nt a w ha hc=>by simp[ao]⟩
 |r::rs,tm,hp,k,h=>by
  obtain⟨v,h,hv⟩:=FJ (k:=fun v=>oI P rs tm hp fun vs=>k (v::vs)) h;obtain⟨vs,h,hvs⟩:=wa rs h;refine⟨v::vs,h,fun B w0 ι nt a w ha hc=>?_⟩;rw[zea,Sem.run_bind,hv B w0 ι nt a w ha hc,Result.andThen_ok,Sem.run_bind,hvs B w0 ι nt a w ha hc];simp[ao]
theorem lT {fn:Func}{tm:Tm}{hp:Tr AO}{k:AV->Rs}(h:oI P fn.results.toList tm hp (fun vs=>Hi vs fun v=>k v)=.ok):∃v,k v=.ok/\∀B w0 ι nt a w,bW ι nt tm a->Core B w0 ι hp w->(results fn a.tmps).run P w=.ok (ak ι v) w:=by
 obtain⟨vs,h,hvs⟩:=wa _ h
 have hm:∀B w0 ι nt a w,bW ι nt tm a->Core B w0 ι hp w->(results fn a.tmps).run P w=.ok (if h:(ao ι vs).toArray.size=1 then (ao ι vs).toArray[0]else .tuple (ao ι vs).toArray) w:=by
  intro B w0 ι nt a w ha hc;have:=hvs B w0 ι nt a w ha hc;show (fn.results.mapM (iX a.tmps) >>= fun vs=>pure (if h:vs.size=1 then vs[0]else .tuple vs)).run P w=_;rw[Sem.run_bind,Array.mapM_eq_mapM_toList,Sem.run_map,this];rfl
 cases vs with
 |nil=>exact⟨.dC [],h,fun B w0 ι nt a w ha hc=>by rw[hm B w0 ι nt a w ha hc];simp[ao,ak]⟩
 |cons v vs =>
  cases vs with
  |nil=>exact⟨v,h,fun B w0 ι nt a w ha hc=>by rw[hm B w0 ι nt a w ha hc];simp[ao]⟩
  |cons u us=>exact⟨.dC (v::u::us),h,fun B w0 ι nt a w ha hc=>by rw[hm B w0 ι nt a w ha hc];simp[ao,ak]⟩
theorem td:∀(vs:List AV)(i:Nat)(t:Tm)(k:Tm->Rs),iP vs i t k=.ok->∃t',k t'=.ok/\t'.ml=t.ml/\∀j,t'.at j=if i<=j/\j<i+vs.length then (vs[j-i]?).getD aE else t.at j
 | [],i,t,k,h=>⟨t,h,rfl,fun j=>by rw[if_neg (by simp only[zei];omega)]⟩
 |v::vs,i,t,k,h=>by
  have h:(tC i).run t v (fun t=>bj (Nat.succ i) fun i=>iP vs i t k)=.ok:=h;rw[lM,aG]at h;obtain⟨t',h,hml,ht⟩:=td vs (i+1) _ k h;refine⟨t',h,by rw[hml,Tm.oJ],fun j=>?_⟩;rw[ht j,zbi];by_cases h1:i+1<=j/\j<i+1+vs.length
  ·rw[if_pos h1,if_pos (by omega),show j-i=(j-(i+1))+1 by omega,zbm]
  ·rw[if_neg h1];by_cases h2:j=i
   ·subst h2;rw[Tm.ec,if_pos (by omega),zdr];rfl
   ·rw[Tm.fT h2,if_neg (by omega)]
theorem tZ {args:List AV}{t':Tm}{nt:Nat}{ι:En}(hml:t'.ml=[])(hl:args.length<=nt)(ht:∀j,t'.at j=if 0<=j/\j<0+args.length then (args[j-0]?).getD aE else Tm.e.at j) :
  bW ι nt t' { tmps:=(ao ι args).toArray++Array.replicate (nt-(ao ι args).toArray.size) undef,defers:=[] }:=by
 refine⟨by simp[aq];omega,by rw[hml];rfl,fun j=>?_⟩
 have e:t'.at j=(args[j]?).getD aE:=by
  rw[ht j];by_cases hj:j<args.length
  ·rw[if_pos (by omega)];rfl
  ·rw[if_neg (by omega),Tm.TY,zbr (by omega)];rfl
 rw[e];simp only[zah,Array.getElem?_append,zec,aq,zao,zdw];by_cases hj:j<args.length
 ·rw[if_pos hj,bu,zap hj];rfl
 ·rw[if_neg hj,zbr (by omega:args.length<=j),Option.getD_none,du];split<;>rfl
theorem nq:Extern.allNextRows.lookup "math.Float64frombits"=none/\Extern.allNextRows.lookup ""=none:=by
 constructor<;>kernel_rfl
theorem xI {f:Nat}{fn:Func}(hf:P.funcs[f]?=some fn)(hb:fn.body=none)(h1:fn.name = "math.Float64frombits")(h2:fn.origin = "math.Float64frombits"∨fn.origin = "")(n:Nat)(w:World){ι:En} :
  (callFunc f (ao ι [.int .u64 (.ofNat n)]).toArray).run P w=.ok (.value (.float .f64 n)) w:=by
 have e1:Extern.findNext fn=none:=by
  unfold Extern.findNext;rcases h2 with h2|h2<;>simp only[h1,h2,nq.1,nq.2]<;>rfl
 have e2:Extern.find fn=some Extern.MathFloatBits.float64frombits:=by
  unfold Extern.find;simp only[h1]
  kernel_rfl
 simp only[callFunc,Sem.run_bind,run_program,Result.andThen_ok,hf,h1,hb,e1,e2,Option.isNone_none,ao,ak];rfl
theorem FL {o:AO}{r:Rs}(h:BN o r=.ok):o=.fa/\r=.ok:=by
 cases o with
 |fa=>exact⟨rfl,h⟩
 |_=>cases h
theorem xJ {fn:Func}{tmps:Array Value}{R:Ending->World->Prop}{B:Nat->Prop}{w0:World}{nx:Pz}{ι:En}:∀(l:List Pz)(hp:Tr AO)(k:Tr AO->Rs),Fv l hp k=.ok->Wf hp nx->∀{w:World},(∀ι',al nx ι ι'->Core B w0 ι' hp w) ->
  ∃hp',k hp'=.ok/\Wf hp' nx/\∃w',(∀ι',al nx ι ι'->Core B w0 ι' hp' w')/\((∃v,(results fn tmps).run P w'=.ok v w'/\R (.returned v) w')->LeavesInM (fw none) 0 P fn tmps R (marks ι l) .returning w)
 | [],hp,k,h,hw,w,hc=>⟨hp,h,hw,w,hc,fun h=>h⟩
 |id::l,hp,k,h,hw,w,hc=>by
  have h:hp.gw id (.bad 292) (fun o=>BN o (hp.c9 id .gone fun hp=>Fv l hp k))=.ok:=h;obtain⟨o,ho,h⟩:=dt h;obtain⟨rfl,g⟩:=FL h;rw[Tr.cz]at g;have hb0:=(hc ι (al.refl _ _)).obj _ _ ho;have hlt:ι.aS id<w.heap.size:=(Array.getElem?_eq_some_iff.1 hb0).1
  have hc':∀ι',al nx ι ι'->Core B w0 ι' (hp.set id .gone) (w.putObj (ι.aS id) (.deferred none)):=fun ι' hι=>by
   have c1:=hc ι' hι;have hbi:=(hι id (hw.lt _ _ ho)).1;have hbase:=c1.base _ _ ho trivial;rw[hbi]at hbase;have hoth:∀b,b≠ι'.aS id->(w.putObj (ι.aS id) (.deferred none)).heap[b]?=w.heap[b]?:=fun b hbne=>World.putObj_heap_other (fun e=>hbne (by rw[hbi];exact e));refine kX ho rfl (fun _ _ h=>by cases h) rfl (fun _ _ h=>by cases h) c1 (c1.below.trans ⟨rfl,rfl,rfl,by simp,fun b hb'=>hoth b (fun e=>hbase (by rw[<-hbi,<-e];exact hb'))⟩) (fun k hk=>by simp;exact c1.room k hk) hoth ?_;show ((w.putObj (ι.aS id) (.deferred none)).heap[ι'.aS id]?).isSome=true;rw[hbi,World.putObj_heap_same hlt];rfl
  obtain⟨hp',hk,hwf,w',hcc,hgo⟩:=xJ l _ k g (qk hw ho rfl (fun _ _ h=>by cases h) rfl (fun _ _ h=>by cases h)) hc';exact⟨hp',hk,hwf,w',hcc,fun hr=>⟨by simp,.inl ⟨_,_,rfl,run_takeDeferred hb0,hgo hr⟩⟩⟩
theorem Ow {call:bP}(hrange:xF P call)(fu:Nat)(Pl:Nat->Nat->List Ph)(hpl:∀f fn c,P.funcs[f]?=some fn->fn.body=some c->dL P (Pl f) c=true)(hops:ot P call)(hdraw:∀nt,B2 P call nt)
  {f:Nat} {args:List AV} {hp:Tr AO} {nx:Pz} {k:AV->Tr AO->Pz->Rs} (h:(Ts P Pl f).run fu call args hp nx k=.ok):xG P f args hp nx k:=by
  unfold Ts at h;cases hf:P.funcs[f]? with
  |none=>rw[hf]at h;cases h
  |some fn =>
   rw[hf]at h;simp only at h;cases hb:fn.body with
   |none =>
    rw[hb]at h;simp only at h;cases hq:(fn.name == "math.Float64frombits"&&(fn.origin == "math.Float64frombits"||fn.origin == ""))with
    |false=>rw[hq]at h;cases h
    |true =>
     rw[hq]at h;simp only at h;intro B w0 w ι cargs hw hc G hG
     obtain⟨n,rfl,hk⟩:∃n,args=[.int .u64 (.ofNat n)]/\k (.float .f64 n) hp nx=.ok:=by
      split at h
      ·exact⟨_,rfl,h⟩
      ·cases h
     refine .inl ⟨.float .f64 n,w,.inl ?_,hG (.float .f64 n) hp nx ι _ w hk hw (zad _) (al.refl _ _) fun ι' hι=>⟨(hc ι' hι).1,by simp[ak]⟩⟩;rw[(hc ι (al.refl _ _)).2];simp only[za,zar,beq_iff_eq]at hq;exact xI hf hb hq.1 hq.2 n w
   |some c =>
    rw[hb]at h;simp only at h;cases hn:(fn.name == "runtime.NumGoroutine")with
    |true=>rw[hn]at h;cases h
    |false =>
     rw[hn]at h;obtain⟨hl,h⟩:=aJ h;have hl:=aK hl;obtain⟨t',h,hml,ht⟩:=td _ _ _ _ h;intro B w0 w ι cargs hw hc R hR;refine .inr (.inl ⟨f,cargs,w,by simp only[callFunc,Sem.run_bind,run_program,Result.andThen_ok,hf,hn,hb,Option.isNone_some,zag,if_false,Sem.run_pure],?_⟩);refine callsIn_wide.1 (callsIn_of_wp_marks (F:=fw none) (n:=0) hf hb trivial ?_)
     have hsat:Sat B w0 fn.ntmps t' hp nx ι { tmps:=cargs++Array.replicate (fn.ntmps-cargs.size) undef,defers:=[] } w:=by
      refine⟨hw,fun ι' hι=>⟨?_,(hc ι' hι).1⟩⟩;rw[(hc ι' hι).2];exact tZ hml hl ht
     refine DJ (r:=none) hops (hdraw _) hrange c (hpl f fn c hf hb) (.inl rfl) fu t' hp nx _ h hsat (fun e tm' hp' nx' ι2 a' w' hk hle ha hs=>?_)
     have fin:Fv tm'.ml hp' (fun hp'=>oI P fn.results.toList tm' hp' fun vs=>Hi vs fun v=>k v hp' nx')=.ok->LeavesInM (fw none) 0 P fn a'.tmps (fun e w''=>∃cv,e=.returned cv/\R cv w'') a'.defers .returning w':=by
      intro hk;obtain⟨t0,c0⟩:=hs.2 ι2 (al.refl _ _);rw[t0.defers];obtain⟨hp2,hk2,hwf2,w2,hc2,hgo⟩:=xJ tm'.ml hp' _ hk hs.1 fun ι' hι=>(hs.2 ι' hι).2;refine hgo ?_;obtain⟨v,hkv,hv⟩:=lT (k:=fun v=>k v hp2 nx') hk2;refine⟨_,hv B w0 ι2 _ a' w2 t0 (hc2 ι2 (al.refl _ _)),_,rfl,hR v hp2 nx' ι2 _ w2 hkv hwf2 hle ha (fun ι' hι=>?_)⟩;obtain⟨t2,_⟩:=hs.2 ι' hι;refine⟨hc2 ι' hι,?_⟩;have e1:=hv B w0 ι2 _ a' w2 t0 (hc2 ι2 (al.refl _ _));have e2:=hv B w0 ι' _ a' w2 t2 (hc2 ι' hι);rw[e1]at e2;simpa using e2
     cases e with
     |eJ=>exact fin hk
     |ext id=>cases hk
     |ret=>exact fin hk
end
end Go.aI
namespace Go.aI
open Go.RowKit
section
variable {P:Program}{o:Oper}{tm:Tm}{hp:Tr AO}{nx:Pz}{k:AV->Tr AO->Pz->Rs}{call:bP}
def Bd (tm:Tm)(y:Option Operand)(d n:Nat):Prop:=(y=none/\n=d)∨∃op kd,y=some op/\∀ι nt a,bW ι nt tm a->a.eval op=.int kd (n:Int)
theorem gP {y:Option Operand}{d:Nat}{k:Nat->Rs}(h:fJ (y.map cH) tm d k=.ok):∃n,k n=.ok/\Bd tm y d n:=by
 cases y with
 |none=>exact⟨d,h,.inl ⟨rfl,rfl⟩⟩
 |some op =>
  obtain⟨v,h,hv⟩:=aM (x:=op) h;obtain⟨kd,n,rfl,g⟩:=jG h;exact⟨n,g,.inr ⟨op,kd,rfl,fun ι nt a ha=>by rw[hv ι nt a ha,er]⟩⟩
theorem qm {w:World}{kd:IntKind}{n y:Nat}{code:BoundsCode}(h:n<=y):(Instr.sliceBound (.int kd (n:Int)) y code).run P w=.ok n w:=by
 simp only[Instr.sliceBound,asIntOf,Sem.run_bind,Sem.run_pure,Result.andThen_ok];rw[if_pos ⟨by omega,by omega⟩];simp
theorem jx {w:World}{ι:En}{nt:Nat}{a:Act}{lo hi:Option Operand}{b:Bool}{len cap l h:Nat}(ha:bW ι nt tm a)(hh:Bd tm hi len h)(hl:Bd tm lo 0 l)(h1:l<=h)(h2:h<=cap) :
  (Instr.sliceBounds b len cap (lo.map a.eval) (hi.map a.eval) none).run P w=.ok (l,h,cap) w:=by
 unfold Instr.sliceBounds;rcases hh with ⟨rfl,rfl⟩|⟨oh,kh,rfl,eh⟩
 ·rcases hl with ⟨rfl,rfl⟩|⟨ol,kl,rfl,el⟩
  ·simp
  ·simp only[zbk,zbx,Sem.run_bind,Sem.run_pure,Result.andThen_ok,el ι nt a ha,qm h1,zdl,zag,if_false]
 ·rcases hl with ⟨rfl,rfl⟩|⟨ol,kl,rfl,el⟩
  ·simp only[zbk,zbx,Sem.run_bind,Sem.run_pure,Result.andThen_ok,eh ι nt a ha,qm h2]
  ·simp only[zbk,zbx,Sem.run_bind,Sem.run_pure,Result.andThen_ok,eh ι nt a ha,el ι nt a ha,qm h2,qm h1,zdl,zag,if_false]
theorem z7 {t:TypeId}{x:Operand}{lo hi:Option Operand}(ho:o.op=.slice t x lo hi none)(hu:P.underlying t=some .string)
  (h:((cH x).run tm fun v=>match v with
   |.str len n=>fJ (hi.map cH) tm len fun h=>fJ (lo.map cH) tm 0 fun l=>bV (Nat.ble l h&&Nat.ble h len) (bj (Nat.sub h l) fun ln=>bj (Nat.mod (Nat.div n (lG (Nat.sub len h))) (lG ln)) fun m=>k (.str ln m) hp nx) (.bad 50)
   |_=>.bad 51)=.ok):dF P o tm hp nx k:=by
 obtain⟨v,h,hv⟩:=aM h;cases v with
 |str len n =>
  obtain⟨hh,h,bh⟩:=gP h;obtain⟨l,h,bl⟩:=gP h;obtain⟨hb,h⟩:=aJ h;simp only[za]at hb;have b1:=aK hb.1;have b2:=aK hb.2;rw[aG,aG]at h
  have key:gI P o tm hp (.str (Nat.sub hh l) (Nat.mod (Nat.div n (lG (Nat.sub len hh))) (lG (Nat.sub hh l)))):=fun B w0 ι nt a w ha hc=>by
   have hsz:(ByteArray.mk (bytesOf len n).toArray).size=len:=by show (bytesOf len n).toArray.size=len;simp[aD]
   simp only[execOp,ho];rw[hv ι nt a ha];simp only[ak,zbx,Instr.sliceAt,Instr.slice,Sem.run_bind,ay hu,Result.andThen_ok,zdl,zag,if_false,Sem.run_pure];rw[hsz,jx ha bh bl b1 b2];simp only[Result.andThen_ok,Sem.run_pure,Result.ok.injEq,and_true,Next.value.injEq,Value.string.injEq];apply ByteArray.ext;rw[zee];apply Array.ext';simp only[Array.toList_extract,js]
   have e1:bytesOf hh (n/256 ^ (len-hh))=(bytesOf len n).take hh:=by
    have:=lO (len-hh) hh n;rw[show hh+(len-hh)=len by omega]at this;exact this
   have e2:bytesOf (hh-l) (n/256 ^ (len-hh))=(bytesOf hh (n/256 ^ (len-hh))).drop l:=by
    have:=pU (hh-l) l (n/256 ^ (len-hh));rw[show l+(hh-l)=hh by omega]at this;exact this
   show _=bytesOf (hh-l) (n/256 ^ (len-hh)%256 ^ (hh-l));rw[jX,e2,e1,ze]
  exact bL key h
 |_=>cases h
theorem oP {w:World}{t el:TypeId}(hu:P.underlying t=some (.slice el)){b q len cap l h m:Nat}{lo hi mx:Option Value}(hb:(Instr.sliceBounds true len cap lo hi mx).run P w=.ok (l,h,m) w) :
  (Instr.sliceAt t (.slice (some ⟨b,q,none⟩) len cap) lo hi mx).run P w=.ok (.slice (some (if m=l then ⟨b,q,none⟩else ⟨b,q+l*ae P el,none⟩)) (h-l) (m-l)) w∨P.info? el=none:=by
 cases hi':P.info? el with
 |none=>exact .inr rfl
 |some i =>
  refine .inl ?_;simp only[Instr.sliceAt,Instr.slice,Sem.run_bind,ay hu,Result.andThen_ok,hb,dE hi',Sem.run_pure];split
  ·simp[*]
  ·simp[*,gx]
theorem B3 {t el:TypeId}{x:Operand}{lo hi:Option Operand}{id:Pz}{off len cap:Nat}(ho:o.op=.slice t x lo hi none)(hu:P.underlying t=some (.slice el))(hi':∃i,P.info? el=some i)(hv:∀ι nt a,bW ι nt tm a->a.eval x=ak ι (.slice id off len cap))
  (h:(fJ (hi.map cH) tm len fun h=>fJ (lo.map cH) tm 0 fun l=>bV (Nat.ble l h&&Nat.ble h cap)
          (bj (Nat.sub h l) fun ln=>bj (Nat.sub cap l) fun c=>bV (Nat.beq cap l) (k (.slice id off ln c) hp nx) (bj (off+l*ae P el) fun off=>k (.slice id off ln c) hp nx)) (.bad 53))=.ok):dF P o tm hp nx k:=by
 obtain⟨hh,h,bh⟩:=gP h;obtain⟨l,h,bl⟩:=gP h;obtain⟨hb,h⟩:=aJ h;simp only[za]at hb;have b1:=aK hb.1;have b2:=aK hb.2;simp only[aG]at h;obtain⟨i,hi'⟩:=hi'
 have run:∀B w0 ι nt a w,bW ι nt tm a->Core B w0 ι hp w->(execOp a.eval o).run P w=.ok (.value (.slice (some (if cap=l then ⟨ι.aS id,ι.sh id+off,none⟩else ⟨ι.aS id,ι.sh id+off+l*ae P el,none⟩)) (hh-l) (cap-l))) w:=by
  intro B w0 ι nt a w ha hc;simp only[execOp,ho];rw[hv ι nt a ha];simp only[ak,zbx,Sem.run_bind];rcases oP hu (b:=ι.aS id) (q:=ι.sh id+off) (jx (P:=P) (w:=w) (b:=true) ha bh bl b1 b2)with e|e
  ·rw[e];rfl
  ·rw[e]at hi';cases hi'
 rcases bQ h with ⟨hq,h⟩|⟨hq,h⟩
 ·have hq:=ai hq
  have key:gI P o tm hp (.slice id off (Nat.sub hh l) (Nat.sub cap l)):=fun B w0 ι nt a w ha hc=>by
   rw[run B w0 ι nt a w ha hc,if_pos hq];simp[ak]
  exact bL key h
 ·have hq:=qW hq
  have key:gI P o tm hp (.slice id (off+l*ae P el) (Nat.sub hh l) (Nat.sub cap l)):=fun B w0 ι nt a w ha hc=>by
   rw[run B w0 ι nt a w ha hc,if_neg hq];simp[ak,zbq]
  exact bL key h
theorem z8 {t el:TypeId}{x:Operand}{lo hi:Option Operand}(ho:o.op=.slice t x lo hi none)(hu:P.underlying t=some (.slice el))(hi':∃i,P.info? el=some i)(hv:∀ι nt a,bW ι nt tm a->a.eval x=ak ι .ab)
  (h:(fJ (hi.map cH) tm 0 fun h=>fJ (lo.map cH) tm 0 fun l=>bV (Nat.beq h 0&&Nat.beq l 0) (k .ab hp nx) (.bad 59))=.ok):dF P o tm hp nx k:=by
 obtain⟨hh,h,bh⟩:=gP h;obtain⟨l,h,bl⟩:=gP h;obtain⟨hb,h⟩:=aJ h;simp only[za]at hb;have b1:=ai hb.1;have b2:=ai hb.2;subst b1;subst b2;obtain⟨i,hi'⟩:=hi'
 have key:gI P o tm hp .ab:=fun B w0 ι nt a w ha hc=>by
  simp only[execOp,ho];rw[hv ι nt a ha];simp only[ak,zbx,Sem.run_bind,Instr.sliceAt,Instr.slice,ay hu,Result.andThen_ok];rw[jx (P:=P) (w:=w) (b:=true) (cap:=0) ha bh bl (zad _) (zad _)];simp[dE hi']
 exact bL key h
end
end Go.aI
namespace Go.aI
open Go.RowKit
section
variable {P:Program}{o:Oper}{tm:Tm}{hp:Tr AO}{nx:Pz}{k:AV->Tr AO->Pz->Rs}{call:bP}
theorem FM {id f:Pz}{ep es n skip l:Nat}{e9 s0:Bool}{el:TypeId}{c:Tr (List AV)}(hw:Wf hp nx)(ho:hp.get id=some (.cG f ep e9 es n el c))(hf:hp.get f=some (.dJ ep s0))(hl:skip+l=n){B:Nat->Prop}{w0 w:World}{ι:En}(hc:Core B w0 ι hp w)
  (hb:ι.aS nx=ι.aS id) (hs:ι.sh nx=if ι.kS id-skip=l then ι.sh id+skip*es else ι.sh id+skip*es+l*es) (hk:ι.kS nx=ι.kS id-skip-l) :
  Core B w0 ι ((eG hp id f ep es n el c).set nx (.cG f ep e9 es 0 el .e)) w:=by
 have hep2:ep=ep∨ep=ep+1:=.inl rfl;have hlv:live hp f ep:=⟨_,hf⟩;have hw1:=xu (n0:=n) hw ho hf hep2;have hc1:=tJ (n0:=n) hw ho hf hep2 (zad _) hc;obtain⟨C,fz,g1,g2,g3,g4,g5⟩:=hc.obj _ _ ho hlv;have hmul:n*es=skip*es+l*es:=by rw[<-hl,zbh]
 have hkm:ι.kS id*es=n*es+(ι.kS id-skip-l)*es:=by rw[<-zbh];congr 1;omega
 have hsle:ι.sh nx<=ι.sh id+n*es:=by rw[hs];split<;>omega
 have hcell:∀i,(eG hp id f ep es n el c).get i≠none->True:=fun _ _=>trivial
 have hblk1:∀i o,i≠id->(eG hp id f ep es n el c).get i=some o->own (eG hp id f ep es n el c) o->ι.aS i=ι.aS id->iu o=some f:=by
  intro i o hi hg hown e;have hgid:(eG hp id f ep es n el c).get id=some (.cG f ep false es n el c):=Tr.br _ _ _
  have hlid:live (eG hp id f ep es n el c) f ep:=by
   refine⟨false,?_⟩;have hne:f≠id:=fun e=>by rw[e,ho]at hf;cases hf
   unfold eG;rw[Tr.cI hne,Tr.br]
  obtain⟨g,e1,e2⟩:=hc1.sep i id o _ hi hg hgid hown hlid e;cases e2;exact e1
 have hid:∀o,(eG hp id f ep es n el c).get id=some o->o=.cG f ep false es n el c:=by
  intro o hg;have hgid:(eG hp id f ep es n el c).get id=some (.cG f ep false es n el c):=Tr.br _ _ _;rw[hgid]at hg;exact (Option.some.inj hg).symm
 refine lR hw1 hc1 (fun _=>⟨C,fz,by rw[hb];exact g1,?_,zbl _,iQ _ _ _ _ _,g5⟩) (fun i o hg hown=>hc1.obj i o hg) hc.below hc.room (by rw[hb];exact hc.base _ _ ho hlv) (fun i o hg hown e=>?_) (fun ht i f' e' tp' es' n' el' c'' hg hl'=>⟨fun e=>?_,fun e hlt=>?_⟩) (fun i f' e' es' n' el' c'' hg hl'=>⟨fun e=>?_,fun e hlt=>?_⟩)
 ·rw[hk,hs];split
  ·rename_i h;rw[h,zdr,zbw];omega
  ·omega
 ·rw[hb]at e;by_cases hi:i=id
  ·subst hi;rw[hid _ hg];rfl
  ·exact hblk1 i o hi hg hown e
 ·by_cases hi:i=id
  ·subst hi;cases hid _ hg;rfl
  ·exact (kU hw ho hf (.inl ⟨rfl,ht,rfl⟩) hc hi hg hl' e.symm).1
 ·rw[hb]at e;rw[zbw,zbu,hs,if_neg (by omega)];by_cases hi:i=id
  ·subst hi;cases hid _ hg;omega
  ·have hfo:=hblk1 i _ hi hg hl' e.symm;have:=(kU hw ho hf (.inl ⟨rfl,ht,rfl⟩) hc hi hg hl' (Option.some.inj hfo)).2 e.symm (by omega);omega
 ·by_cases hi:i=id
  ·subst hi;cases hid _ hg
  ·cases ht:e9 with
   |false=>rfl
   |true=>exact absurd (kU hw ho hf (.inl ⟨rfl,ht,rfl⟩) hc hi hg hl' e).1 (by decide)
 ·rw[hb]at e;by_cases hi:i=id
  ·subst hi;cases hid _ hg
  ·have hfo:=hblk1 i _ hi hg hl' e;rcases cg hg with ⟨h,_⟩|⟨_,_,h⟩|⟨_,_,h⟩
   ·exact absurd h hi
   ·cases h
   ·have hown:=(iJ (o:=.cG f' e' true es' n' el' c'') hw ho hf hep2 hi h hl').1;have:=(hc.e9 i id _ _ _ _ _ _ _ _ _ _ _ _ _ hi h ho hown hlv).2 e hlt;rw[zbw,zbu];omega
theorem B4 {t el:TypeId}{x:Operand}{lo hi:Option Operand}{id:Pz}{off len skip:Nat}(ho:o.op=.slice t x lo hi none)(hu:P.underlying t=some (.slice el))(hi':∃i,P.info? el=some i)(hv:∀ι nt a,bW ι nt tm a->a.eval x=ak ι (.bt id off len skip))
  (h:(fJ (hi.map cH) tm len fun h=>fJ (lo.map cH) tm 0 fun l =>
      hp.gw id (.bad 55) fun o=>match o with
      |.cG f ep e9 es n el' c=>vC hp f ep fun _=>bV (Nat.ble l h&&Nat.ble (skip+h) n)
       (bV (Nat.beq l 0&&Nat.blt 0 h) (k (.bt id off h skip) hp nx)
        (bV (Nat.blt (skip+l) n) (bj (Nat.sub h l) fun ln=>bj (off+l*ae P el) fun off=>bj (skip+l) fun skip=>k (.bt id off ln skip) hp nx)
         (bV (Nat.beq es (ae P el)&&Nat.beq off (skip*es))
           (hp.c9 f (.dJ ep false) fun hp=>hp.c9 id (.cG f ep false es n el' c) fun hp =>
            newObj hp nx (.cG f ep e9 es 0 el' .e) fun id hp nx=>k (.bt id 0 0 0) hp nx) (.bad 56)))) (.bad 58)
      |_=>.bad 57)=.ok):jS P o tm hp nx k:=by
 obtain⟨hh,h,bh⟩:=gP h;obtain⟨l,h,bl⟩:=gP h;obtain⟨ob,hob,h⟩:=dt h;cases ob with
 |cG f ep e9 es n el' c =>
  obtain⟨s0,hf,h1⟩:=pV h;obtain⟨hb,h2⟩:=aJ h1;simp only[za]at hb;have b1:=aK hb.1;have b2:=aK hb.2;obtain⟨i,hi'⟩:=hi'
  have run:∀B w0 ι nt a w,bW ι nt tm a->Core B w0 ι hp w->n<=ι.kS id/\(execOp a.eval o).run P w=.ok (.value (.slice (some (if ι.kS id-skip=l then ⟨ι.aS id,ι.sh id+off,none⟩else ⟨ι.aS id,ι.sh id+off+l*ae P el,none⟩)) (hh-l) (ι.kS id-skip-l))) w:=by
   intro B w0 ι nt a w ha hc;obtain⟨C,fz,g1,g2,g3,g4,g5⟩:=hc.obj _ _ hob ⟨_,hf⟩;refine⟨g3,?_⟩;simp only[execOp,ho];rw[hv ι nt a ha];simp only[ak,zbx,Sem.run_bind];rcases oP hu (b:=ι.aS id) (q:=ι.sh id+off) (jx (P:=P) (w:=w) (b:=true) (cap:=ι.kS id-skip) ha bh bl b1 (by omega))with e|e
   ·rw[e];rfl
   ·rw[e]at hi';cases hi'
  rcases bQ h2 with ⟨hq,h3⟩|⟨_,h3⟩
  ·simp only[za]at hq;have q1:=ai hq.1;have q2:=av hq.2;subst q1
   have key:gI P o tm hp (.bt id off hh skip):=fun B w0 ι nt a w ha hc=>by
    obtain⟨g3,hr⟩:=run B w0 ι nt a w ha hc;rw[hr,if_neg (by omega)];simp[ak]
   exact (bL key h3).to
  ·rcases bQ h3 with ⟨hq,h4⟩|⟨hq,h4⟩
   ·have hq:=av hq;simp only[aG]at h4
    have key:gI P o tm hp (.bt id (off+l*ae P el) (Nat.sub hh l) (skip+l)):=fun B w0 ι nt a w ha hc=>by
     obtain⟨g3,hr⟩:=run B w0 ι nt a w ha hc;rw[hr,if_neg (by omega)];simp[ak,zbq,Nat.sub_sub]
    exact (bL key h4).to
   ·have hq:=Oo hq;obtain⟨hz,h5⟩:=aJ h4;simp only[za]at hz;have z1:=ai hz.1;have z2:=ai hz.2;subst z1;subst z2;rw[Tr.cz,Tr.cz,cW]at h5;have hln:skip+l=n:=by omega
    have hhl:hh=l:=by omega
    refine GU.to (v:=.bt nx 0 0 0) (hp':=(eG hp id f ep (ae P el) n el' c).set nx (.cG f ep e9 (ae P el) 0 el' .e)) (nx':=nx.succ) ⟨by rw[Pz.cw];omega,fun hw=>DI hw hob hf (.inl rfl),fun B w0 nt a w ι hs=>?_⟩ h5;obtain⟨t1,c1⟩:=hs.2 ι (al.refl _ _);have hidlt:=hs.1.lt _ _ hob;obtain⟨g3,hr⟩:=run B w0 ι nt a w t1 c1;refine⟨_,_,w,g9 ι nx (ι.aS id) (if ι.kS id-skip=l then ι.sh id+skip*ae P el else ι.sh id+skip*ae P el+l*ae P el) (ι.kS id-skip-l),.inl hr,fun ι' hι=>?_⟩;obtain⟨ha,k1,k2,k3⟩:=dw hι;obtain⟨d1,d2,d3⟩:=ha id hidlt;obtain⟨t2,c2⟩:=hs.2 ι' ha;refine⟨FM hs.1 hob hf hln c2 (by rw[k1,d1]) (by rw[k2,d2,d3]) (by rw[k3,d3]),?_⟩;simp only[ak,k1,k2,k3,zbu,zel,hhl,zdr];split<;>rfl
 |_=>cases h
end
end Go.aI
namespace Go.aI
open Go.RowKit
section
variable {P:Program}{o:Oper}{tm:Tm}{hp:Tr AO}{nx:Pz}{k:AV->Tr AO->Pz->Rs}{call:bP}
theorem B5 {s t:TypeId}{x:Operand}{ks kt:IntKind}(ho:o.op=.convert s t x)(hs:P.underlying s=some (.int ks))(ht:P.underlying t=some (.int kt))
  (h:((cH x).run tm fun v=>asInt v fun _ n=>tD kt n fun n=>k (.int kt n) hp nx)=.ok):dF P o tm hp nx k:=by
 obtain⟨v,h,hv⟩:=aM h;obtain⟨kd,n,rfl,g⟩:=db h;have g:=tL g
 have key:gI P o tm hp (.int kt (kt.wrap n)):=fun B w0 ι nt a w ha hc=>by
  simp only[execOp,ho];rw[hv ι nt a ha];simp only[ak,convert,Sem.run_bind,ay hs,ay ht,Result.andThen_ok,Conv.intToInt,Sem.run_pure]
 exact bL key g
theorem B6 {s t:TypeId}{x:Operand}(ho:o.op=.convert s t x)(hs:P.underlying s=some .string)(ht:P.underlying t=some .string)
  (h:((cH x).run tm fun v=>match v with|.str l n=>k (.str l n) hp nx|_=>.bad 90)=.ok):dF P o tm hp nx k:=by
 obtain⟨v,h,hv⟩:=aM h;cases v with
 |str l n =>
  have key:gI P o tm hp (.str l n):=fun B w0 ι nt a w ha hc=>by
   simp only[execOp,ho];rw[hv ι nt a ha];simp only[ak,convert,Sem.run_bind,ay hs,ay ht,Result.andThen_ok,Sem.run_pure]
  exact bL key h
 |_=>cases h
theorem se:∀(ls:List (List AV))(n:Nat)(k:Nat->Rs),mP ls n k=.ok->∃(m:Nat)(bs:List UInt8),k m=.ok/\bs.length=ls.length/\(∀l0,bytesOf (l0+ls.length) m=bytesOf l0 n++bs)/\(even 1 ls->∀ι,ao ι ls.flatten=bs.map fun b=>Value.int .u8 (b.toNat:Int))
 | [],n,k,h=>⟨n,[],h,rfl,fun l0=>by simp,fun _ ι=>rfl⟩
 |l::ls,n,k,h=>by
  obtain⟨v,hv,h⟩:=nN 0 (l:=l) (k:=fun v=>match v with|.int .u8 (.ofNat b)=>bV (Nat.blt b 256) (bj (n*256+b) fun n=>mP ls n k) (.bad 85)|_=>.bad 85) h;split at h
  ·rename_i b;obtain⟨hb,h⟩:=aJ h;have hb:=av hb;rw[aG]at h;obtain⟨m,bs,hk,hl,hm,hr⟩:=se ls _ k h;refine⟨m,UInt8.ofNat b::bs,hk,by simp[hl],fun l0=>?_,fun he ι=>?_⟩
   ·rw[zbi,show l0+(ls.length+1)=(l0+1)+ls.length by omega,hm,lN _ _ _ hb];simp
   ·have h1:=he l (zac ..)
    have h2:l=[.int .u8 (.ofNat b)]:=by
     cases l with
     |nil=>simp at hv
     |cons y ys =>
      simp only[zbf,Option.some.injEq]at hv;simp only[zbi,Nat.add_eq_right,List.length_eq_zero_iff]at h1;rw[hv,h1]
    rw[zcc,fe,hr (fun x hx=>he x (zaa _ hx)) ι,h2];simp only[ao,zef,zcx,zal,er];congr 3;rw[zdm];omega
  ·cases h
theorem FN (bs:List UInt8){w:World}(f:Value->ByteArray->Sem (ForInStep ByteArray))(hf:∀(b:UInt8) s w,(f (.int .u8 (b.toNat:Int)) s).run P w=.ok (.yield (s.push b)) w)(s0:ByteArray) :
  (forIn (bs.map fun b=>Value.int .u8 (b.toNat:Int)) s0 f).run P w=.ok ⟨(s0.data.toList++bs).toArray⟩ w:=by
 induction bs generalizing s0 with
 |nil=>simp
 |cons b bs ih =>
  simp only[zal,List.forIn_cons,Sem.run_bind,hf,Result.andThen_ok];rw[ih];congr 2;simp
theorem xK {s t e:TypeId}{x:Operand}(ho:o.op=.convert s t x)(hs:P.underlying s=some (.slice e))(ht:P.underlying t=some .string)(he:P.underlying e=some (.int .u8))
  (h:((cH x).run tm fun v=>match v with
   |.str _ _=>.bad 98
   |v=>lI hp 1 v fun ls=>bj ls.length fun l=>mP ls 0 fun n=>k (.str l n) hp nx)=.ok):dF P o tm hp nx k:=by
 obtain⟨v,h,hv⟩:=aM h
 have main:(lI hp 1 v fun ls=>bj ls.length fun l=>mP ls 0 fun n=>k (.str l n) hp nx)=.ok->(∀ι,(∃b q len cap,ak ι v=.slice (some ⟨b,q,none⟩) len cap)∨ak ι v=.slice none 0 0)->dF P o tm hp nx k:=by
  intro h hkind;obtain⟨ls,h,hsrc⟩:=tW (P:=P) h;rw[aG]at h;obtain⟨m,bs,hk,hl,hm,hr⟩:=se _ _ _ h;have hm0:bytesOf ls.length m=bs:=by have:=hm 0;simpa [bytesOf] using this
  have key:gI P o tm hp (.str ls.length m):=fun B w0 ι nt a w ha hc=>by
   have hs':=hsrc B w0 ι w hc;have hlen:=hs'.len;have hcells:=hs'.cells;simp only[execOp,ho];rw[hv ι nt a ha];simp only[ak,hm0];rcases hkind ι with ⟨b,q,len,cap,ee⟩|ee
   ·rw[ee]at hlen hcells ⊢;simp only[Builtin.lenOf,Sem.run_pure,Result.ok.injEq,and_true]at hlen;simp only[Builtin.firstCells,zeq]at hcells;rw[hr hs'.even ι]at hcells
    have hb:(Conv.bytesToString (.slice (some ⟨b,q,none⟩) len cap)).run P w=.ok (.string ⟨bs.toArray⟩) w:=by
     unfold Conv.bytesToString;rw[Sem.run_bind,hlen,hcells,Result.andThen_ok,Sem.run_bind,<-Array.forIn_toList];rw[show ((bs.map fun b=>Value.int .u8 (b.toNat:Int)).toArray).toList=bs.map fun b=>Value.int .u8 (b.toNat:Int)from rfl];rw[FN (P:=P) bs (w:=w) _ (fun b s w=>by simp) ByteArray.empty];simp
    simp only[convert,Sem.run_bind,ay hs,ay ht,ay he,Result.andThen_ok,hb,Sem.run_pure]
   ·rw[ee]at hlen ⊢;simp only[Builtin.lenOf,Sem.run_pure,Result.ok.injEq,and_true]at hlen;have:bs=[]:=List.eq_nil_of_length_eq_zero (by rw[hl,<-hlen]);subst this;simp only[convert,Sem.run_bind,ay hs,ay ht,ay he,Result.andThen_ok,Conv.bytesToString,Sem.run_pure];rfl
  exact bL key hk
 cases v with
 |slice id off len cap=>exact main h (fun ι=>.inl ⟨ι.aS id,ι.sh id+off,len,cap,by simp only[ak]⟩)
 |bt id off len skip=>exact main h (fun ι=>.inl ⟨ι.aS id,ι.sh id+off,len,ι.kS id-skip,by simp only[ak]⟩)
 |ab=>exact main h (fun ι=>.inr (by simp only[ak]))
 |_=>cases h
end
end Go.aI
namespace Go.aI
open Go.RowKit
theorem xL (w:World)(C:Array Value)(e:TypeId):(w.alloc (.cells C e (0,0))).freeze ⟨w.heap.size,C.size,none⟩ 1=w.alloc (.cells C e (C.size,C.size+1)):=by
 unfold World.freeze;rw[if_neg (by decide)]
 have hh:(w.heap.push (Obj.cells C e (0,0))).modify w.heap.size (fun
   |.cells c elem (lo,hi)=>.cells c elem (if lo==hi then (C.size,C.size+1)else (min lo C.size,max hi (C.size+1)))
   |o=>o)=w.heap.push (Obj.cells C e (C.size,C.size+1)):=by
  apply Array.ext_getElem?;intro i;rw[zcm,zdt,zdt];by_cases hi:w.heap.size=i
  ·subst hi;simp
  ·rw[if_neg hi,if_neg (fun h=>hi h.symm),if_neg (fun h=>hi h.symm)]
 exact congrArg (fun h=>({ w with heap:=h }:World)) hh
theorem B7 {P:Program}(w:World)(C:Array Value)(e:TypeId):(newRow e C).run P w=.ok ⟨w.heap.size,0,none⟩ (w.alloc (.cells C e (0,0))):=rfl
theorem run_mark {P:Program}(w:World)(C:Array Value)(e:TypeId):(markStringish ⟨w.heap.size,0,none⟩).run P (w.alloc (.cells C e (0,0)))=.ok () (w.alloc (.cells C e (C.size,C.size+1))):=by
 have h:(w.alloc (.cells C e (0,0))).shape? w.heap.size=some (e,C.size):=by
  unfold World.shape?;rw[heap_alloc_new]
 simp only[markStringish,Sem.run_bind,run_shape,h,Result.andThen_ok,run_freeze];rw[xL]
section
variable {P:Program}{o:Oper}{tm:Tm}{hp:Tr AO}{nx:Pz}{k:AV->Tr AO->Pz->Rs}{call:bP}
theorem ua {s t e:TypeId}{x:Operand}(ho:o.op=.convert s t x)(hs:P.underlying s=some .string)(ht:P.underlying t=some (.slice e))(he:P.underlying e=some (.int .u8))
  (h:((cH x).run tm fun v=>match v with
   |.str l n=>kR l n [] fun ls=>bV (gU l 1) (grow hp nx e 1 ls k) (.bad 91)
   |_=>.bad 92)=.ok):jS P o tm hp nx k:=by
 obtain⟨v,h,hv⟩:=aM h;cases v with
 |str l n =>
  have h:(kR l n [] fun ls=>bV (gU l 1) (grow hp nx e 1 ls k) (.bad 91))=.ok:=h;rw[np,zbg]at h;obtain⟨hsm,h⟩:=aJ h;unfold grow at h;rw[aG,lS,cW,cW]at h;have hlen:(tV l n).length=l:=by simp[tV,aD]
  have heven:even 1 (tV l n):=fun x hx=>by
   unfold tV at hx;obtain⟨b,_,rfl⟩:=List.mem_map.1 hx;rfl
  rw[hlen]at h;refine (zY (fun B w0 ι nt a w ha hc=>?_)).to h;generalize hcap:(Question.appendCap l 0 e).cut (w.tape w.drawn (.appendCap l 0 e))=cap;have hle:l<=cap:=by rw[<-hcap];simp only[Question.cut];omega
  generalize hC:((bytesOf l n).toArray.map fun b=>Value.int .u8 (b.toNat:Int))++Array.replicate (cap-l) (Value.int .u8 0)=C;have hCs:C.size=cap:=by rw[<-hC];simp[aD];omega
  refine⟨cap,C,(C.size,C.size+1),w.drew,iy hc,rfl,?_,hle,by rw[hCs];omega,?_,Or.inr (zad _)⟩
  ·simp only[execOp,ho];rw[hv ι nt a ha];have hsz:(ByteArray.mk (bytesOf l n).toArray).size=l:=by show (bytesOf l n).toArray.size=l;simp[aD]
   have e1:({ w with drawn:=w.drawn+1 }:World)=w.drew:=rfl;simp only[ak,convert,Sem.run_bind,ay hs,ay ht,ay he,Result.andThen_ok,Conv.stringToBytes,hsz,run_choose,Question.forced,zag,if_false,hcap,e1,B7,Sem.run_pure,hC,run_mark]
  ·have:=gO (ι:=ι) (C:=C) (C':=C) (base:=0) (c:=.e) (iQ ι C 0 1 .e) heven (fun i hi=>rfl) (fun i hi=>?_)
   ·rw[zaq,hlen]at this;exact this
   ·rw[zbw,zaq,zaq];rw[hlen,zeq]at hi
    have hfl:(tV l n).flatten=(bytesOf l n).map fun b=>AV.int .u8 (.ofNat b.toNat):=by
     unfold tV;generalize bytesOf l n=bs
     induction bs with
     |nil=>rfl
     |cons b bs ih=>simp only[zal,zcc,ih];rfl
    rw[hfl,<-hC,Array.getElem?_append_left (by simp[aD,hi]),Array.getElem?_map,zao,zcs,Option.map_map];congr 1
 |_=>cases h
end
end Go.aI
namespace Go.aI
open Go.RowKit
section
variable {P:Program}
def Found (P:Program)(t:TypeId)(k:AV)(es:List ME)(r:Option (Nat×ME)):Prop :=
 match r with
 |none=>∀e∈es,xx P 9 t k e.key false
 |some (j,e)=>∃pre post,es=pre++e::post/\j=pre.length/\(∀x∈pre,xx P 9 t k x.key false)/\xx P 9 t k e.key true
theorem nr {t:TypeId}{k:AV}:∀(es:List ME)(i:Nat)(z:Rs)(kk:Nat->ME->Rs),mn P t k es i z kk=.ok->(z=.ok/\Found P t k es none)∨∃j e,kk (i+j) e=.ok/\Found P t k es (some (j,e))
 | [],i,z,kk,h=>.inl ⟨h,fun e he=>by simp at he⟩
 |e::es,i,z,kk,h=>by
  have h:lH P 9 t k e.key (fun b=>bV b (kk i e) (bj (i+1) fun i=>mn P t k es i z kk))=.ok:=h;obtain⟨b,h,hb⟩:=jY P _ _ _ _ _ h;rcases bQ h with ⟨rfl,h⟩|⟨rfl,h⟩
  ·exact .inr ⟨0,e,h,[],es,rfl,rfl,fun x hx=>by simp at hx,hb⟩
  ·rw[aG]at h;rcases nr es (i+1) z kk h with ⟨h1,h2⟩|⟨j,e',h1,pre,post,h2,h3,h4,h5⟩
   ·refine .inl ⟨h1,fun x hx=>?_⟩;rcases List.mem_cons.1 hx with rfl|hx
    ·exact hb
    ·exact h2 x hx
   ·refine .inr ⟨j+1,e',by rw[show i+(j+1)=i+1+j by omega];exact h1,e::pre,post,by rw[h2];rfl,by rw[h3];rfl,fun x hx=>?_,h5⟩;rcases List.mem_cons.1 hx with rfl|hx
    ·exact hb
    ·exact h4 x hx
noncomputable def fi (ι:En)(i:Nat):Option (Nat×ME)->Option (Nat×Value)
 |none=>none
 |some (j,e)=>some (i+j,ak ι e.val)
theorem q9 {t:TypeId}{k:AV}{w:World}{ι:En}:∀(es:List ME)(i:Nat)(r:Option (Nat×ME)),Found P t k es r->(Instr.findAsking t (ak ι k) (es.map (dP ι)) i).run P w=.ok (fi ι i r) w
 | [],i,none,h=>rfl
 | [],i,some (j,e),h=>by obtain⟨pre,post,h1,_⟩:=h;cases pre<;>cases h1
 |e::es,i,none,h=>by
  have he:=jZ (h e (zac ..)) ι w;simp only[zal,Instr.findAsking,Sem.run_bind,dP,he,Result.andThen_ok,zag,if_false];exact q9 es (i+1) none (fun x hx=>h x (zaa _ hx))
 |e::es,i,some (j,e'),h=>by
  obtain⟨pre,post,h1,h2,h3,h4⟩:=h;cases pre with
  |nil =>
   cases h1;have he:=jZ h4 ι w;simp only[zal,Instr.findAsking,Sem.run_bind,dP,he,Result.andThen_ok,if_true,Sem.run_pure,fi,h2];rfl
  |cons x pre =>
   cases h1;have he:=jZ (h3 e (zac ..)) ι w;simp only[zal,Instr.findAsking,Sem.run_bind,dP,he,Result.andThen_ok,zag,if_false];have:=q9 (t:=t) (k:=k) (w:=w) (ι:=ι) (pre++e'::post) (i+1) (some (pre.length,e')) ⟨pre,post,rfl,rfl,fun y hy=>h3 y (zaa _ hy),h4⟩;refine this.trans ?_;rw[h2];simp only[fi,zbi];congr 3;omega
theorem aN {t:TypeId}{d:TypeDesc}{a b:Value}{c:Bool}(hu:P.underlying t=some d)(h:Instr.sameNow d a b=some c)(w:World):(Op.equal t a b).run P w=.ok c w:=by
 unfold Instr.sameNow at h;split at h
 ·rename_i kd k a k' b;by_cases hk:k=k'
  ·subst hk;rw[if_pos rfl]at h;cases h;exact run_equalIn_int w 9999 t k kd a b hu
  ·rw[if_neg hk]at h;cases h
 ·rename_i a b;cases h;have:=run_equalIn_string w 9999 t a b hu;rw[<-beq_toListBytes]at this;exact this
 ·rename_i a b;cases h;exact run_equalIn_bool' w 9999 t a b hu
 ·cases h
theorem B8 {t:TypeId}{d:TypeDesc}{k:AV}{ι:En}(hu:P.underlying t=some d):∀(es:List ME)(i:Nat)(r:Option (Nat×ME))(q:Option (Nat×Value)),Found P t k es r->Instr.findNow d (ak ι k) (es.map (dP ι)) i=some q->q=fi ι i r
 | [],i,none,q,h,hq=>by cases hq;rfl
 | [],i,some (j,e),q,h,hq=>by obtain⟨pre,post,h1,_⟩:=h;cases pre<;>cases h1
 |e::es,i,r,q,h,hq=>by
  simp only[zal,Instr.findNow,dP]at hq;cases hs:Instr.sameNow d (ak ι k) (ak ι e.key)with
  |none=>rw[hs]at hq;cases hq
  |some c =>
   rw[hs]at hq;have hc:=aN hu hs default;cases r with
   |none =>
    have he:=jZ (h e (zac ..)) ι default;rw[hc]at he;cases he;exact B8 hu es (i+1) none q (fun x hx=>h x (zaa _ hx)) hq
   |some je =>
    obtain⟨j,e'⟩:=je;obtain⟨pre,post,h1,h2,h3,h4⟩:=h;cases pre with
    |nil =>
     cases h1;have he:=jZ h4 ι default;rw[hc]at he;cases he;cases hq;rw[h2];rfl
    |cons x pre =>
     cases h1;have he:=jZ (h3 e (zac ..)) ι default;rw[hc]at he;cases he;have:=B8 hu (pre++e'::post) (i+1) (some (pre.length,e')) q ⟨pre,post,rfl,rfl,fun y hy=>h3 y (zaa _ hy),h4⟩ hq;rw[this,h2];simp only[fi,zbi];congr 2;omega
theorem fU {t:TypeId}{d:TypeDesc}{k:AV}{ι:En}{w:World}{es:List ME}{r:Option (Nat×ME)}(hu:P.underlying t=some d)(h:Found P t k es r):(Instr.findKey t (ak ι k) (es.map (dP ι))).run P w=.ok (fi ι 0 r) w:=by
 unfold Instr.findKey;rw[Sem.run_bind,ay hu,Result.andThen_ok];cases hn:Instr.findNow d (ak ι k) (es.map (dP ι)) 0 with
 |none=>exact q9 es 0 r h
 |some q=>simp only[Sem.run_pure];rw[B8 hu es 0 r q h hn]
end
end Go.aI
namespace Go.aI
open Go.RowKit
section
variable {hp:Tr AO}{id:Pz}{x y:AO}
def jH (w:World)(b:Nat)(E:Array MapEntry)(cl:Nat):World:={ w with heap:=w.heap.setIfInBounds b (.map E cl) }
theorem fE {es es':List ME}{cl cl':Nat}(ho:hp.get id=some (.map es cl)):(∀nx,Wf hp nx->Wf (hp.set id (.map es' cl')) nx)/\∀B w0 ι w,Core B w0 ι hp w->∀E':Array MapEntry,E'.toList=es'.map (dP ι)->Core B w0 ι (hp.set id (.map es' cl')) (jH w (ι.aS id) E' cl'):=by
 refine⟨fun nx hw=>qk hw ho rfl (fun _ _ h=>by cases h) rfl (fun _ _ h=>by cases h),fun B w0 ι w hc E' hE=>?_⟩;obtain⟨E,h1,h2⟩:=hc.obj _ _ ho;have hb:=hc.base _ _ ho trivial;have hlt:=(Array.getElem?_eq_some_iff.1 h1).1
 have hoth:∀b,b≠ι.aS id->(jH w (ι.aS id) E' cl').heap[b]?=w.heap[b]?:=fun b hbne=>by
  show (w.heap.setIfInBounds _ _)[b]?=_;rw[zck (fun e=>hbne e.symm)]
 refine kX ho rfl (fun _ _ h=>by cases h) rfl (fun _ _ h=>by cases h) hc (hc.below.trans ⟨rfl,rfl,rfl,by simp[jH],fun b hb'=>hoth b (fun e=>hb (e▸hb'))⟩) (fun k hk=>by simp[jH];exact hc.room k hk) hoth ⟨E',?_,hE⟩;show (w.heap.setIfInBounds _ _)[ι.aS id]?=_;simp[hlt]
end
end Go.aI
namespace Go.aI
open Go.RowKit
section
variable {P:Program}{o:Oper}{tm:Tm}{hp:Tr AO}{nx:Pz}{k:AV->Tr AO->Pz->Rs}{call:bP}
theorem z9 {a b:AV}(h:tE a b=true)(ι:En):ak ι a=ak ι b/\∀n,Instr.sameBits n (ak ι a) (ak ι b)=true:=by
 unfold tE at h;split at h
 ·rename_i x y;obtain rfl:x=y:=by simpa using h
  exact⟨rfl,fun n=>by cases n<;>simp[ak,Instr.sameBits]⟩
 ·simp only[za,decide_eq_true_eq,beq_iff_eq]at h;obtain⟨rfl,rfl⟩:=h;exact⟨rfl,fun n=>by cases n<;>simp[ak,Instr.sameBits]⟩
 ·rw[dX]at h;have h:=by simpa using h
  simp only[ak];rw[h];exact⟨rfl,fun n=>by cases n<;>(simp only[Instr.sameBits];rw[beq_toListBytes];exact beq_self_eq_true _)⟩
 ·cases h
theorem Aa (ι:En):∀{as bs:List AV},vH as bs=true->ao ι as=ao ι bs/\∀n,((ao ι as).zip (ao ι bs)).all (fun (x,y)=>Instr.sameBits n x y)=true
 | [],[],_=>⟨rfl,fun n=>rfl⟩
 | [],_::_,h=>by cases h
 |_::_,[],h=>by cases h
 |a::as,b::bs,h=>by
  simp only[vH,za]at h;obtain⟨h1,h2⟩:=z9 h.1 ι;obtain⟨h3,h4⟩:=Aa ι h.2;exact⟨by simp only[ao];rw[h1,h3],fun n=>by simp only[ao,List.zip_cons_cons,zdk,za];exact⟨h2 n,h4 n⟩⟩
theorem ub {a b:AV}(h:oi a b=true)(ι:En):ak ι a=ak ι b/\Instr.sameBits 10000 (ak ι a) (ak ι b)=true:=by
 unfold oi at h;split at h
 ·obtain⟨h1,h2⟩:=Aa ι h;refine⟨by simp only[ak];rw[h1],?_⟩;simp only[ak,Instr.sameBits,za];refine⟨by rw[h1];simp,?_⟩;have:=h2 9999;simpa using this
 ·obtain⟨h1,h2⟩:=z9 h ι;exact⟨h1,h2 _⟩
theorem iA {t:TypeId}{d:TypeDesc}(hu:P.underlying t=some d)(hd:d=.bool∨(∃kd,d=.int kd)∨d=.string)(e:Bool)(n:Nat)(v:Value)(w:World):(Instr.checkKey e (n+1) t v).run P w=.ok () w:=by
 unfold Instr.checkKey;rw[Sem.run_bind,ay hu,Result.andThen_ok];rcases hd with rfl|⟨kd,rfl⟩|rfl<;>rfl
theorem nT:∀(d:Nat){t:TypeId}{v:AV},BP P d t v=true->(∃dd,P.underlying t=some dd)/\∀e n ι w,(Instr.checkKey e (n+d) t (ak ι v)).run P w=.ok () w
 |0,t,v,h=>by cases h
 |d+1,t,v,h=>by
  unfold BP at h;split at h
  ·rename_i hu;exact⟨⟨_,hu⟩,fun e n ι w=>iA hu (.inl rfl) e (n+d) _ w⟩
  ·rename_i hu;exact⟨⟨_,hu⟩,fun e n ι w=>iA hu (.inr (.inl ⟨_,rfl⟩)) e (n+d) _ w⟩
  ·rename_i hu;exact⟨⟨_,hu⟩,fun e n ι w=>iA hu (.inr (.inr rfl)) e (n+d) _ w⟩
  ·rename_i fs hu;cases v with
   |agg cs =>
    simp only at h;refine⟨⟨_,hu⟩,fun e n ι w=>?_⟩;rw[show n+(d+1)=(n+d)+1 by omega];unfold Instr.checkKey;rw[Sem.run_bind,ay hu,Result.andThen_ok];simp only[ak];rw[<-Array.forIn_toList];generalize fs.toList=l at h
    induction l with
    |nil=>rfl
    |cons f l ih =>
     rw[zdk,za]at h;obtain⟨h1,h3⟩:=h
     obtain⟨u,hp',hc⟩:∃u,(part f.type (ao ι cs).toArray f.offset).run P w=.ok (ak ι u) w/\(Instr.checkKey e (n+d) f.type (ak ι u)).run P w=.ok () w:=by
      cases hagg:dZ P f.type with
      |true =>
       rw[hagg]at h1;exact⟨_,tR hagg ι w,(nT d h1).2 e n ι w⟩
      |false =>
       rw[hagg]at h1;simp only at h1;cases hg:cs[f.offset]? with
       |none=>rw[hg]at h1;cases h1
       |some u =>
        rw[hg]at h1;simp only at h1;obtain⟨⟨dd,hd⟩,hk⟩:=nT d h1;exact⟨u,nk (by unfold cD;rw[hd];rfl) hagg hg ι w,hk e n ι w⟩
     have ih:=ih h3;rw[List.forIn_cons];rw[Sem.run_bind]at ih;by_cases hn:f.name≠"_"
     ·simp only[if_pos hn,Sem.run_bind,hp',hc,Result.andThen_ok,Sem.run_pure];exact ih
     ·simp only[if_neg hn,Sem.run_bind,Result.andThen_ok,Sem.run_pure];exact ih
   |_=>cases h
  ·rename_i nn e hu;split at h
   ·rename_i a b;simp only[za,zaj]at h;obtain⟨⟨h1,ha,hi,hs⟩,h3,h4⟩:=h;obtain rfl:=zab h1;obtain⟨i,hi⟩:=Option.isSome_iff_exists.1 hi;have hs:P.cellsOf e=1:=zab hs;obtain⟨⟨dd,hd⟩,k3⟩:=nT d h3;obtain⟨_,k4⟩:=nT d h4;refine⟨⟨_,hu⟩,fun em n ι w=>?_⟩;rw[show n+(d+1)=(n+d)+1 by omega];unfold Instr.checkKey;rw[Sem.run_bind,ay hu,Result.andThen_ok];simp only[ak];have p0:∀w,(part e (ao ι [a,b]).toArray 0).run P w=.ok (ak ι a) w:=fun w=>nk (by unfold cD;rw[hd];rfl) ha (by rfl) ι w;have p1:∀w,(part e (ao ι [a,b]).toArray 1).run P w=.ok (ak ι b) w:=fun w=>nk (by unfold cD;rw[hd];rfl) ha (by rfl) ι w;simp only[Std.Legacy.Range.forIn_eq_forIn_range',Std.Legacy.Range.size,zel,Nat.add_one_sub_one,Nat.div_one,List.range',List.forIn_cons,List.forIn_nil,Sem.run_bind,run_sizeOf w hi,Result.andThen_ok,hs,zbw,zes,zaq,zeq,p0,p1,k3,k4,Sem.run_pure]
   ·cases h
  ·cases h
theorem nU {t:TypeId}{v:AV}{r:Rs}(h:kH P t v r=.ok):r=.ok/\(∃d,P.underlying t=some d)/\∀e ι w,(Instr.checkKey e 10000 t (ak ι v)).run P w=.ok () w:=by
 unfold kH at h;split at h
 ·rename_i hu;exact⟨h,⟨_,hu⟩,fun e ι w=>iA hu (.inl rfl) e 9999 _ w⟩
 ·rename_i hu;exact⟨h,⟨_,hu⟩,fun e ι w=>iA hu (.inr (.inl ⟨_,rfl⟩)) e 9999 _ w⟩
 ·rename_i hu;exact⟨h,⟨_,hu⟩,fun e ι w=>iA hu (.inr (.inr rfl)) e 9999 _ w⟩
 ·obtain⟨h1,h⟩:=aJ h;obtain⟨h2,h3⟩:=nT 4 h1;exact⟨h,h2,fun e ι w=>h3 e 9996 ι w⟩
 ·obtain⟨h1,h⟩:=aJ h;obtain⟨h2,h3⟩:=nT 4 h1;exact⟨h,h2,fun e ι w=>h3 e 9996 ι w⟩
 ·cases h
theorem cq {w:World}{b:Nat}{E:Array MapEntry}{cl:Nat}(h:w.heap[b]?=some (.map E cl)):(getObj b).run P w=.ok (.map E cl) w:=by
 simp[getObj,Sem.run,h]
theorem fj {w:World}{b:Nat}{E E':Array MapEntry}{cl cl':Nat}(h:w.heap[b]?=some (.map E cl)):(setObj b (.map E' cl')).run P w=.ok () (jH w b E' cl'):=by
 simp[setObj,Sem.run,h,jH]
theorem qn {v:AV}{kk:Pz->List ME->Nat->Rs}(h:pP hp v kk=.ok):∃id es c,v=.map id/\hp.get id=some (.map es c)/\kk id es c=.ok:=by
 unfold pP at h;cases v with
 |map id =>
  have h:hp.gw id (.bad 102) (fun o=>oF o fun es c=>kk id es c)=.ok:=h;obtain⟨ob,ho,h⟩:=dt h;cases ob with
  |map es c=>exact⟨id,es,c,rfl,ho,h⟩
  |_=>cases h
 |_=>cases h
theorem FO {t kt et:TypeId}{m i:Operand}{ok:Bool}{z:AV}(ho:o.op=.lookup t m i ok)(hu:P.underlying t=some (.map kt et))(hz:zeroOf P et=some z)
  (h:((cH m).run tm fun m=>(cH i).run tm fun i=>kH P kt i (match m with
    |.bg=>Bool.rec (motive:=fun _=>Rs) (k z hp nx) (k (.dC [z,.bool false]) hp nx) ok
    |m=>pP hp m fun _ es _=>mn P kt i es 0 (Bool.rec (motive:=fun _=>Rs) (k z hp nx) (k (.dC [z,.bool false]) hp nx) ok) fun _ e=>Bool.rec (motive:=fun _=>Rs) (k e.val hp nx) (k (.dC [e.val,.bool true]) hp nx) ok))=.ok):dF P o tm hp nx k:=by
 obtain⟨mv,h,hm⟩:=aM h;obtain⟨iv,h,hi⟩:=aM h;obtain⟨h,⟨d,hd⟩,hchk⟩:=nU h;obtain⟨_,zv,_,_,_,hzero⟩:=cJ hz
 have outK:∀{v:AV} {b:Bool},(Bool.rec (motive:=fun _=>Rs) (k v hp nx) (k (.dC [v,.bool b]) hp nx) ok)=.ok->k (if ok then .dC [v,.bool b]else v) hp nx=.ok:=by
  intro v b h;cases ok<;>exact h
 have big:pP hp mv (fun _ es _=>mn P kt iv es 0 (Bool.rec (motive:=fun _=>Rs) (k z hp nx) (k (.dC [z,.bool false]) hp nx) ok) fun _ e=>Bool.rec (motive:=fun _=>Rs) (k e.val hp nx) (k (.dC [e.val,.bool true]) hp nx) ok)=.ok->dF P o tm hp nx k:=by
  intro h;obtain⟨id,es,c,rfl,hob,h⟩:=qn h;rcases nr _ _ _ _ h with ⟨h,hf⟩|⟨j,e,h,hf⟩
  ·have key:gI P o tm hp (if ok then .dC [z,.bool false]else z):=fun B w0 ι nt a w ha hc=>by
     obtain⟨E,h1,h2⟩:=hc.obj _ _ hob;have hfind:=fU (ι:=ι) (w:=w) hd hf;simp only[execOp,ho,Sem.run_bind];rw[hm ι nt a ha,hi ι nt a ha];simp only[ak,Instr.lookup,Sem.run_bind,ay hu,Result.andThen_ok,cq h1,Sem.run_pure,hchk,h2,hfind,fi,hzero ι];cases ok<;>simp[ak,ao]
   exact bL key (outK h)
  ·have key:gI P o tm hp (if ok then .dC [e.val,.bool true]else e.val):=fun B w0 ι nt a w ha hc=>by
     obtain⟨E,h1,h2⟩:=hc.obj _ _ hob;have hfind:=fU (ι:=ι) (w:=w) hd hf;simp only[execOp,ho,Sem.run_bind];rw[hm ι nt a ha,hi ι nt a ha];simp only[ak,Instr.lookup,Sem.run_bind,ay hu,Result.andThen_ok,cq h1,Sem.run_pure,hchk,h2,hfind,fi];cases ok<;>simp[ak,ao]
   exact bL key (outK h)
 cases mv with
 |bg =>
  have key:gI P o tm hp (if ok then .dC [z,.bool false]else z):=fun B w0 ι nt a w ha hc=>by
   have hfind:=fU (ι:=ι) (w:=w) (es:=[]) (r:=none) (k:=iv) hd (fun e he=>by simp at he);simp only[execOp,ho,Sem.run_bind];rw[hm ι nt a ha,hi ι nt a ha];simp only[ak,Instr.lookup,Sem.run_bind,ay hu,Result.andThen_ok,Sem.run_pure,hchk];rw[show ([]:List MapEntry)=([]:List ME).map (dP ι)from rfl,hfind];simp only[fi,Result.andThen_ok,Sem.run_bind,hzero ι,Sem.run_pure];cases ok<;>simp[ak,ao]
  exact bL key (outK h)
 |_=>exact big h
theorem ra {v:AV}:∀(j:Nat){es:List ME}{kk:List ME->Rs},pO v j es kk=.ok->∃e,es[j]?=some e/\kk (es.set j ⟨e.key,v,e.born⟩)=.ok
 |0,[],kk,h=>by cases h
 |0,e::es,kk,h=>⟨e,rfl,h⟩
 |j+1,[],kk,h=>by cases h
 |j+1,e::es,kk,h=>by
  obtain⟨e',h1,h2⟩:=ra j (es:=es) (kk:=fun t=>kk (e::t)) h;exact⟨e',by simpa using h1,by simpa using h2⟩
theorem uc (e:ME):∀(es:List ME)(kk:List ME->Rs),vI e es kk=kk (es++[e])
 | [],kk=>rfl
 |x::es,kk=>by
  show vI e es (fun t=>kk (x::t))=_;rw[uc e es];rfl
theorem Ab:∀(j:Nat){es:List ME}{kk:List ME->Rs},Dw j es kk=.ok->kk (es.eraseIdx j)=.ok/\j<es.length
 |0,[],kk,h=>by cases h
 |0,e::es,kk,h=>⟨h,by simp⟩
 |j+1,[],kk,h=>by cases h
 |j+1,e::es,kk,h=>by
  obtain⟨h1,h2⟩:=Ab j (es:=es) (kk:=fun t=>kk (e::t)) h;exact⟨by simpa using h1,by simpa using h2⟩
theorem Ad {b:Nat}:∀(es:List ME)(i:Nat)(kk:Nat->Rs),Dy b es i kk=.ok->∃j,kk (i+j)=.ok/\∀ι,(es.map (dP ι)).findIdx? (fun e=>(e.born:Int)==(b:Int))=some j
 | [],i,kk,h=>by cases h
 |e::es,i,kk,h=>by
  rcases bQ (b:=Nat.beq e.born b) (x:=kk i) (y:=bj (i+1) fun i=>Dy b es i kk) h with ⟨hb,h⟩|⟨hb,h⟩
  ·exact⟨0,h,fun ι=>by rw[zal,List.findIdx?_cons,if_pos (by simp[dP,ai hb])]⟩
  ·rw[aG]at h;obtain⟨j,h1,h2⟩:=Ad es _ _ h;refine⟨j+1,by rw[show i+(j+1)=i+1+j by omega];exact h1,fun ι=>?_⟩;have hne:=qW hb;rw[zal,List.findIdx?_cons,if_neg (by simp[dP];omega),h2 ι];rfl
theorem qo (E:Array MapEntry)(j:Nat)(f:MapEntry->MapEntry)(l:List MapEntry)(h:E.toList=l):(E.modify j f).toList=l.modify j f:=by rw[Array.toList_modify,h]
theorem nu (ι:En)(v:AV)(kn:Value):∀(es:List ME)(j:Nat)(e:ME),es[j]?=some e->kn=ak ι e.key->(es.map (dP ι)).modify j (fun x=>{ x with key:=kn,val:=ak ι v })=(es.set j ⟨e.key,v,e.born⟩).map (dP ι)
 | [],j,e,h,_=>by simp at h
 |x::es,0,e,h,hk=>by
  simp only[zbf,Option.some.injEq]at h;subst h;simp[dP,hk]
 |x::es,j+1,e,h,hk=>by
  have:=nu ι v kn es j e (by simpa using h) hk;simp only[zal,zeg,List.set_cons_succ];rw[this]
theorem wb (ι:En)(kn:Value):∀(es:List ME)(j:Nat)(e:ME),es[j]?=some e->kn=ak ι e.key->(es.map (dP ι)).modify j (fun x=>{ x with key:=kn })=es.map (dP ι)
 | [],j,e,h,_=>by simp at h
 |x::es,0,e,h,hk=>by
  simp only[zbf,Option.some.injEq]at h;subst h;simp[dP,hk]
 |x::es,j+1,e,h,hk=>by
  have:=wb ι kn es j e (by simpa using h) hk;simp only[zal,zeg];rw[this]
theorem Ae (ι:En)(v:AV):∀(es:List ME)(j:Nat)(e:ME),es[j]?=some e->(es.map (dP ι)).modify j (fun x=>{ x with val:=ak ι v })=(es.set j ⟨e.key,v,e.born⟩).map (dP ι)
 | [],j,e,h=>by simp at h
 |x::es,0,e,h=>by
  simp only[zbf,Option.some.injEq]at h;subst h;simp[dP]
 |x::es,j+1,e,h=>by
  have:=Ae ι v es j e (by simpa using h);simp only[zal,zeg,List.set_cons_succ];rw[this]
theorem ud {t:TypeId}{kv:AV}{es:List ME}{j:Nat}{e:ME}(h:Found P t kv es (some (j,e))):es[j]?=some e:=by
 obtain⟨pre,post,h1,h2,_⟩:=h;rw[h1,h2];simp
theorem Ox {ι:En}{E:Array MapEntry}{es:List ME}{j:Nat}{e:ME}(h2:E.toList=es.map (dP ι))(hj:es[j]?=some e):E[j]?=some (dP ι e):=by
 rw[<-zcn,h2,zcs,hj];rfl
theorem wc {t kt et:TypeId}{m i x:Operand}(ho:o.op=.mapUpdate t m i x∨o.op=.insert t m i x)(hu:P.underlying t=some (.map kt et))
  (h:((cH m).run tm fun m=>(cH i).run tm fun i=>(cH x).run tm fun x=>kH P kt i (pP hp m fun id es c =>
    mn P kt i es 0 (vI ⟨i,x,c⟩ es fun es=>bj (c+1) fun c=>hp.c9 id (.map es c) fun hp=>k aE hp nx)
     fun j e=>bV (oi e.key i) (pO x j es fun es=>hp.c9 id (.map es c) fun hp=>k aE hp nx) (.bad 107)))=.ok):jS P o tm hp nx k:=by
 obtain⟨mv,h,hm⟩:=aM h;obtain⟨iv,h,hi⟩:=aM h;obtain⟨xv,h,hx⟩:=aM h;obtain⟨h,⟨d,hd⟩,hchk⟩:=nU h;obtain⟨id,es,c,rfl,hob,h⟩:=qn h
 have hexec:∀(a:Act),execOp a.eval o=(do Instr.mapUpdate t (a.eval m) (a.eval i) (a.eval x);pure .skip):=by
  intro a;rcases ho with ho|ho<;>simp only[execOp,ho]
 rcases nr _ _ _ _ h with ⟨h,hf⟩|⟨j,e,h,hf⟩
 ·rw[uc,aG,Tr.cz]at h
  have key:FA P o tm hp nx aE (hp.set id (.map (es++[⟨iv,xv,c⟩]) (c+1))):=by
   refine⟨(fE hob).1 nx,fun B w0 ι nt a w hw ha hc=>?_⟩;obtain⟨E,h1,h2⟩:=hc.obj _ _ hob;have hfind:=fU (ι:=ι) (w:=w) hd hf;refine⟨_,undef,.inr ⟨?_,rfl⟩,(du ι).symm,(fE hob).2 B w0 ι w hc (E.push ⟨ak ι iv,ak ι xv,c⟩) (by simp[h2,dP])⟩;rw[hexec,hm ι nt a ha,hi ι nt a ha,hx ι nt a ha];simp only[ak,Instr.mapUpdate,Sem.run_bind,ay hu,Result.andThen_ok,cq h1,hchk,h2,hfind,fi,fj h1,Sem.run_pure]
  exact key.Fz.to h
 ·obtain⟨hb,h⟩:=aJ h;rw[zaq]at h;obtain⟨e',he',h⟩:=ra _ h;rw[Tr.cz]at h;have hat:=ud hf;rw[hat]at he';cases he'
  have key:FA P o tm hp nx aE (hp.set id (.map (es.set j ⟨e.key,xv,e.born⟩) c)):=by
   refine⟨(fE hob).1 nx,fun B w0 ι nt a w hw ha hc=>?_⟩;obtain⟨E,h1,h2⟩:=hc.obj _ _ hob;have hfind:=fU (ι:=ι) (w:=w) hd hf;obtain⟨hb1,hb2⟩:=ub hb ι;refine⟨_,undef,.inr ⟨?_,rfl⟩,(du ι).symm,(fE hob).2 B w0 ι w hc (E.modify j fun y=>{ y with key:=ak ι iv,val:=ak ι xv }) (by rw[qo _ _ _ _ h2];exact nu ι xv _ es j e hat hb1.symm)⟩;rw[hexec,hm ι nt a ha,hi ι nt a ha,hx ι nt a ha];simp only[ak,Instr.mapUpdate,Sem.run_bind,ay hu,Result.andThen_ok,cq h1,hchk,h2,hfind,fi,zaq,Ox h2 hat,zbk,zca,Instr.keyThatStays];rw[show (dP ι e).key=ak ι e.key from rfl,hb2];simp only[if_true,Sem.run_pure,Result.andThen_ok,fj h1]
  exact key.Fz.to h
theorem HF {t kt et:TypeId}{m i:Operand}{z:AV}(ho:o.op=.mapEntry t m i)(hu:P.underlying t=some (.map kt et))(hz:zeroOf P et=some z)
  (h:((cH m).run tm fun m=>(cH i).run tm fun i=>kH P kt i (pP hp m fun id es c =>
    mn P kt i es 0 (vI ⟨i,z,c⟩ es fun es=>bj (c+1) fun c'=>hp.c9 id (.map es c') fun hp=>k (.dC [z,.int .i64 (.ofNat c)]) hp nx)
     fun _ e=>bV (oi e.key i) (hp.c9 id (.map es c) fun hp=>k (.dC [e.val,.int .i64 (.ofNat e.born)]) hp nx) (.bad 107)))=.ok):jS P o tm hp nx k:=by
 obtain⟨mv,h,hm⟩:=aM h;obtain⟨iv,h,hi⟩:=aM h;obtain⟨h,⟨d,hd⟩,hchk⟩:=nU h;obtain⟨id,es,c,rfl,hob,h⟩:=qn h;obtain⟨_,zv,_,_,_,hzero⟩:=cJ hz;rcases nr _ _ _ _ h with ⟨h,hf⟩|⟨j,e,h,hf⟩
 ·rw[uc,aG,Tr.cz]at h
  have key:FA P o tm hp nx (.dC [z,.int .i64 (.ofNat c)]) (hp.set id (.map (es++[⟨iv,z,c⟩]) (c+1))):=by
   refine⟨(fE hob).1 nx,fun B w0 ι nt a w hw ha hc=>?_⟩;obtain⟨E,h1,h2⟩:=hc.obj _ _ hob;have hfind:=fU (ι:=ι) (w:=w) hd hf;refine⟨_,_,.inl ?_,rfl,(fE hob).2 B w0 ι w hc (E.push ⟨ak ι iv,ak ι z,c⟩) (by simp[h2,dP])⟩;simp only[execOp,ho];rw[hm ι nt a ha,hi ι nt a ha];simp only[ak,ao,Instr.mapEntry,Sem.run_bind,ay hu,Result.andThen_ok,cq h1,hchk,h2,hfind,fi,hzero ι,fj h1,Sem.run_pure,goInt];rfl
  exact key.Fz.to h
 ·obtain⟨hb,h⟩:=aJ h;rw[Tr.cz]at h;have hat:=ud hf
  have key:FA P o tm hp nx (.dC [e.val,.int .i64 (.ofNat e.born)]) (hp.set id (.map es c)):=by
   refine⟨(fE hob).1 nx,fun B w0 ι nt a w hw ha hc=>?_⟩;obtain⟨E,h1,h2⟩:=hc.obj _ _ hob;have hfind:=fU (ι:=ι) (w:=w) hd hf;obtain⟨hb1,hb2⟩:=ub hb ι;refine⟨_,_,.inl ?_,rfl,(fE hob).2 B w0 ι w hc (E.modify j fun y=>{ y with key:=ak ι iv }) (by rw[qo _ _ _ _ h2];exact wb ι _ es j e hat hb1.symm)⟩;simp only[execOp,ho];rw[hm ι nt a ha,hi ι nt a ha];simp only[ak,ao,Instr.mapEntry,Sem.run_bind,ay hu,Result.andThen_ok,cq h1,hchk,h2,hfind,fi,zaq,Ox h2 hat,zbk,zca,Instr.keyThatStays];rw[show (dP ι e).key=ak ι e.key from rfl,hb2];simp only[if_true,Sem.run_pure,Sem.run_bind,Result.andThen_ok,fj h1,goInt,dP];rfl
  exact key.Fz.to h
theorem vp {t:TypeId}{m s x:Operand}(ho:o.op=.entryStore t m s x)
  (h:((cH m).run tm fun m=>(cH s).run tm fun s=>(cH x).run tm fun x=>pP hp m fun id es c=>asNat s fun b =>
  Dy b es 0 fun j=>pO x j es fun es=>hp.c9 id (.map es c) fun hp=>k aE hp nx)=.ok):jS P o tm hp nx k:=by
 obtain⟨mv,h,hm⟩:=aM h;obtain⟨sv,h,hsv⟩:=aM h;obtain⟨xv,h,hx⟩:=aM h;obtain⟨id,es,c,rfl,hob,h⟩:=qn h;obtain⟨kd,b,rfl,h⟩:=jG h;obtain⟨j,h,hj⟩:=Ad _ _ _ h;rw[zaq]at h;obtain⟨e,he,h⟩:=ra _ h;rw[Tr.cz]at h
 have key:FA P o tm hp nx aE (hp.set id (.map (es.set j ⟨e.key,xv,e.born⟩) c)):=by
  refine⟨(fE hob).1 nx,fun B w0 ι nt a w hw ha hc=>?_⟩;obtain⟨E,h1,h2⟩:=hc.obj _ _ hob;refine⟨_,undef,.inr ⟨?_,rfl⟩,(du ι).symm,(fE hob).2 B w0 ι w hc (E.modify j fun y=>{ y with val:=ak ι xv }) (by rw[qo _ _ _ _ h2];exact Ae ι xv es j e he)⟩
  have hfi:E.findIdx? (fun e=>(e.born:Int)==(b:Int))=some j:=by
   have e1:E=E.toList.toArray:=rfl;rw[<-hj ι,<-h2];exact List.findIdx?_toArray _ E.toList
  simp only[execOp,ho];rw[hm ι nt a ha,hsv ι nt a ha,hx ι nt a ha,er];simp only[ak,Instr.entryStore,Sem.run_bind,Result.andThen_ok,cq h1,Go.asInt,asIntOf,Sem.run_pure,hfi,fj h1]
 exact key.Fz.to h
theorem FP {c:Call}{b:Builtin}{ts:TypeId}{tss:List TypeId}{s x:Operand}(ho:o.op=.call c)(hc:c.callee=.builtin b)(ht:c.argTypes.toList=ts::tss)(hx:c.args.toList=[s,x]){a:Act}{w:World}{f:Array TypeId->TypeId->Array Value->Sem Value}
  (hb:∀ats ty cs as,builtin b ats ty cs as=(do pure (.value (<-f ats ty as)))):(execOp a.eval o).run P w=((f (ts::tss).toArray o.type #[a.eval s,a.eval x]).run P w).andThen fun v w'=>.ok (.value v) w':=by
 have hargs:c.args.map a.eval=#[a.eval s,a.eval x]:=by rw[map_mk,hx];rfl
 have hats:c.argTypes=(ts::tss).toArray:=by apply Array.ext';rw[ht]
 simp only[execOp,ho,resolve,hc,hargs,hats,Sem.run_bind,Sem.run_pure,Result.andThen_ok,invoke,hb]
theorem ou (ι:En):∀(es:List ME)(j:Nat),(es.map (dP ι)).eraseIdx j=(es.eraseIdx j).map (dP ι)
 | [],j=>by simp
 |e::es,0=>by simp
 |e::es,j+1=>by simp[ou ι es j]
theorem FQ {c:Call}{t kt et:TypeId}{ts:List TypeId}{m i:Operand}(ho:o.op=.call c)(hc:c.callee=.builtin .delete)(ht:c.argTypes.toList=t::ts)(hx:c.args.toList=[m,i])(hu:P.underlying t=some (.map kt et))
  (h:((cH m).run tm fun m=>(cH i).run tm fun i=>kH P kt i (match m with
    |.bg=>k aE hp nx
    |m=>pP hp m fun id es c=>mn P kt i es 0 (hp.c9 id (.map es c) fun hp=>k aE hp nx) fun j _=>Dw j es fun es=>hp.c9 id (.map es c) fun hp=>k aE hp nx))=.ok):jS P o tm hp nx k:=by
 obtain⟨mv,h,hm⟩:=aM h;obtain⟨iv,h,hi⟩:=aM h;obtain⟨h,⟨d,hd⟩,hchk⟩:=nU h;have hrun:∀(a:Act) (w:World),(execOp a.eval o).run P w=((Builtin.delete_ (t::ts).toArray o.type #[a.eval m,a.eval i]).run P w).andThen fun v w'=>.ok (.value v) w':=fun a w=>FP ho hc ht hx (fun _ _ _ _=>rfl)
 have big:pP hp mv (fun id es c=>mn P kt iv es 0 (hp.c9 id (.map es c) fun hp=>k aE hp nx) fun j _=>Dw j es fun es=>hp.c9 id (.map es c) fun hp=>k aE hp nx)=.ok->jS P o tm hp nx k:=by
  intro h;obtain⟨id,es,c,rfl,hob,h⟩:=qn h;rcases nr _ _ _ _ h with ⟨h,hf⟩|⟨j,e,h,hf⟩
  ·rw[Tr.cz]at h
   have key:FA P o tm hp nx aE (hp.set id (.map es c)):=by
    refine⟨(fE hob).1 nx,fun B w0 ι nt a w hw ha hc=>?_⟩;obtain⟨E,h1,h2⟩:=hc.obj _ _ hob;have hfind:=fU (ι:=ι) (w:=w) hd hf;refine⟨_,undef,.inl ?_,(du ι).symm,(fE hob).2 B w0 ι w hc E h2⟩;rw[hrun,hm ι nt a ha,hi ι nt a ha];simp only[Builtin.delete_,zao,zbf,zbm,ak,Sem.run_bind,ay hu,Result.andThen_ok,cq h1,hchk,h2,hfind,fi,fj h1,Sem.run_pure];rfl
   exact key.Fz.to h
  ·rw[zaq]at h;obtain⟨h,hlt⟩:=Ab _ h;rw[Tr.cz]at h
   have key:FA P o tm hp nx aE (hp.set id (.map (es.eraseIdx j) c)):=by
    refine⟨(fE hob).1 nx,fun B w0 ι nt a w hw ha hc=>?_⟩;obtain⟨E,h1,h2⟩:=hc.obj _ _ hob;have hfind:=fU (ι:=ι) (w:=w) hd hf;refine⟨_,undef,.inl ?_,(du ι).symm,(fE hob).2 B w0 ι w hc (E.eraseIdxIfInBounds j) (by rw[Array.toList_eraseIdxIfInBounds,h2,ou])⟩;rw[hrun,hm ι nt a ha,hi ι nt a ha];simp only[Builtin.delete_,zao,zbf,zbm,ak,Sem.run_bind,ay hu,Result.andThen_ok,cq h1,hchk,h2,hfind,fi,zaq,fj h1,Sem.run_pure];rfl
   exact key.Fz.to h
 cases mv with
 |bg =>
  have key:gI P o tm hp aE:=fun B w0 ι nt a w ha hcc=>by
   rw[hrun,hm ι nt a ha,hi ι nt a ha];simp only[Builtin.delete_,zao,zbf,zbm,ak,Sem.run_bind,ay hu,Result.andThen_ok,hchk,Sem.run_pure];rfl
  exact (bL key h).to
 |_=>exact big h
end
end Go.aI
namespace Go.aI
open Go.RowKit
section
variable {P:Program}{o:Oper}{tm:Tm}{hp:Tr AO}{nx:Pz}{k:AV->Tr AO->Pz->Rs}{call:bP}
theorem wg {c:Call}{b:Builtin}{s x:Operand}(ho:o.op=.call c)(hc:c.callee=.builtin b)(hx:c.args.toList=[s,x]){a:Act}{w:World}{f:Array TypeId->TypeId->Array Value->Sem Value}
  (hb:∀ats ty cs as,builtin b ats ty cs as=(do pure (.value (<-f ats ty as)))):(execOp a.eval o).run P w=((f c.argTypes o.type #[a.eval s,a.eval x]).run P w).andThen fun v w'=>.ok (.value v) w':=by
 have hargs:c.args.map a.eval=#[a.eval s,a.eval x]:=by rw[map_mk,hx];rfl
 simp only[execOp,ho,resolve,hc,hargs,Sem.run_bind,Sem.run_pure,Result.andThen_ok,invoke,hb]
theorem KL {mx:Bool}{v y:AV}{kk:AV->Rs}(h:Ko mx v y kk=.ok):∃ka a b,v=.int ka a/\y=.int ka b/\kk (.int ka (if (if mx then b > a else b<a)then b else a))=.ok:=by
 obtain⟨ka,a,rfl,g⟩:=db h;obtain⟨kb,b,rfl,g2⟩:=db g;obtain⟨hk,g3⟩:=aJ g2;obtain rfl:=tM hk;clear h g g2;have h:=g3;clear g3;refine⟨ka,a,b,rfl,rfl,?_⟩;cases mx
 ·rcases bQ h with ⟨hb,h⟩|⟨hb,h⟩
  ·have hb:b<a:=of_decide_eq_true hb;simpa [hb] using h
  ·have hb:¬b<a:=of_decide_eq_false hb;simpa [hb] using h
 ·rcases bQ h with ⟨hb,h⟩|⟨hb,h⟩
  ·have hb:b > a:=of_decide_eq_true hb;simpa [hb] using h
  ·have hb:¬b > a:=of_decide_eq_false hb;simpa [hb] using h
theorem HG {mx:Bool}{c:Call}{x y:Operand}(ho:o.op=.call c)(hc:c.callee=.builtin (if mx then .max else .min))(hx:c.args.toList=[x,y])(h:((cH x).run tm fun a=>(cH y).run tm fun b=>Ko mx a b fun v=>k v hp nx)=.ok):dF P o tm hp nx k:=by
 obtain⟨v,h,hv⟩:=aM h;obtain⟨u,h,hu⟩:=aM h;obtain⟨ka,p,q,rfl,rfl,g⟩:=KL h;refine bL (fun B w0 ι nt a w ha hcc=>?_) g;cases mx with
 |false =>
  rw[wg ho hc hx (f:=Builtin.min_) (fun _ _ _ _=>rfl),hv ι nt a ha,hu ι nt a ha];simp only[Builtin.min_,List.foldlM_cons,List.foldlM_nil,ak,Builtin.min2,Sem.run_bind,Sem.run_pure,Result.andThen_ok,zag,if_false]
 |true =>
  rw[wg ho hc hx (f:=Builtin.max_) (fun _ _ _ _=>rfl),hv ι nt a ha,hu ι nt a ha];simp only[Builtin.max_,List.foldlM_cons,List.foldlM_nil,ak,Builtin.max2,Sem.run_bind,Sem.run_pure,Result.andThen_ok,if_true]
theorem wh (w:World)(a:Addr)(n b:Nat)(h:b≠a.block):(w.freeze a n).heap[b]?=w.heap[b]?:=by
 unfold World.freeze;split
 ·rfl
 ·show (w.heap.modify _ _)[b]?=_;rw[zcm,if_neg (fun e=>h e.symm)]
theorem sf (w:World)(a:Addr)(n:Nat):(w.freeze a n).heap.size=w.heap.size:=by
 unfold World.freeze;split
 ·rfl
 ·simp
theorem FR {w:World}{b:Nat}{C:Array Value}{el:TypeId}{fz:Nat×Nat}(h:w.heap[b]?=some (.cells C el fz))(hf:fL fz C.size):∃fz',(w.freeze ⟨b,C.size,none⟩ 1).heap[b]?=some (.cells C el fz')/\fL fz' C.size:=by
 obtain⟨lo,hi⟩:=fz;unfold World.freeze;rw[if_neg (by decide)];refine⟨if lo==hi then (C.size,C.size+1)else (min lo C.size,max hi (C.size+1)),?_,?_⟩
 ·show (w.heap.modify _ _)[b]?=_;rw[zcm,if_pos rfl,h];rfl
 ·by_cases he:lo=hi
  ·rw[if_pos (by simpa using he)];exact .inr (zad _)
  ·rw[if_neg (by simpa using he)];rcases hf with hf|hf
   ·exact absurd hf he
   ·exact .inr (by simp only at hf ⊢;omega)
theorem Af {s t e e':TypeId}{x:Operand}(ho:o.op=.convert s t x)(hs:P.underlying s=some (.slice e'))(ht:P.underlying t=some (.slice e))(he:P.underlying e=some (.int .u8))
  (h:((cH x).run tm fun v=>match v with
   |.slice id off len cap=>bV (Nat.beq s t) (hp.gw id (.bad 230) fun o=>match o with
    |.arr _ _ _ _=>k (.slice id off len cap) hp nx
    |_=>.bad 231) (.bad 232)
   |_=>.bad 233)=.ok):jS P o tm hp nx k:=by
 obtain⟨v,h,hv⟩:=aM h;cases v with
 |slice id off len cap =>
  obtain⟨zM,h⟩:=aJ h;have zM:=ai zM;obtain⟨ob,hob,h⟩:=dt h;cases ob with
  |arr es n el c =>
   have key:FA P o tm hp nx (.slice id off len cap) hp:=by
    refine⟨fun hw=>hw,fun B w0 ι nt a w hw ha hc=>?_⟩;obtain⟨C,fz,h1,h2,h3,h4,h5⟩:=hc.obj _ _ hob;have hb:=hc.base _ _ hob trivial;obtain⟨fz',f1,f2⟩:=FR h1 h5;refine⟨w.freeze ⟨ι.aS id,C.size,none⟩ 1,_,.inl ?_,rfl,?_⟩
    ·have hsh:w.shape? (ι.aS id)=some (el,C.size):=by
       unfold World.shape?;rw[h1]
     have hm:(markStringish ⟨ι.aS id,ι.sh id+off,none⟩).run P w=.ok () (w.freeze ⟨ι.aS id,C.size,none⟩ 1):=by
      simp only[markStringish,Sem.run_bind,run_shape,hsh,Result.andThen_ok,run_freeze]
     simp only[execOp,ho];rw[hv ι nt a ha];simp only[ak,convert,Sem.run_bind,ay hs,ay ht,ay he,Result.andThen_ok,show (s==t)=true by simp[zM],hm,Sem.run_pure]
    ·refine⟨hc.below.trans ⟨?_,?_,?_,by rw[sf];exact zad _,fun b hb'=>wh _ _ _ _ (fun e=>hb (by have e:b=ι.aS id:=e;rw[<-e];exact hb'))⟩,fun b hb'=>by rw[sf];exact hc.room b hb',fun i p hi=>?_,hc.base,hc.sep,hc.e9⟩
     ·unfold World.freeze;split<;>rfl
     ·unfold World.freeze;split<;>rfl
     ·unfold World.freeze;split<;>rfl
     ·by_cases hi':i=id
      ·subst hi';rw[hob]at hi;cases hi;exact⟨C,fz',f1,h2,h3,h4,f2⟩
      ·refine (hc.obj i p hi).bE (fun x=>x) fun ho'=>wh _ _ _ _ (fun e=>?_);obtain⟨f,_,g⟩:=hc.sep _ _ _ _ hi' hi hob ho' trivial e;cases g
   exact key.Fz.to h
  |_=>cases h
 |_=>cases h
end
end Go.aI
namespace Go.aI
open Go.RowKit
section
variable {P:Program}{o:Oper}{tm:Tm}{hp:Tr AO}{nx:Pz}{k:AV->Tr AO->Pz->Rs}{call:bP}
theorem KM {a b:Rs}(h:Og a b=.ok):a=.ok/\b=.ok:=by
 cases a with
 |ok=>exact⟨rfl,h⟩
 |bad n=>cases h
theorem ue {o:AO}{kk:Pz->Nat->List Nat->Nat->Rs}(h:xf o kk=.ok):∃m s l c,o=.iter m s l c/\kk m s l c=.ok:=by
 cases o with
 |iter m s l c=>exact⟨m,s,l,c,rfl,h⟩
 |_=>cases h
theorem rb {o:AO}{kk:List ME->Nat->Rs}(h:oF o kk=.ok):∃es c,o=.map es c/\kk es c=.ok:=by
 cases o with
 |map es c=>exact⟨es,c,rfl,h⟩
 |_=>cases h
theorem xM (b:Nat):∀l,QU b l=l.contains b
 | []=>rfl
 |x::l=>by
  show Bool.rec (motive:=fun _=>Bool) (QU b l) true (Nat.beq x b)=_;rw[List.contains_cons];cases hb:Nat.beq x b with
  |true=>rw[ai hb];simp
  |false =>
   have:(b==x)=false:=by
    rw[beq_eq_false_iff_ne];intro e;subst e;rw[zcf]at hb;cases hb
   rw[this];simpa using xM b l
theorem DL {since:Nat}:∀{es:List ME},Oh since es=true->∀e∈es,e.born<since
 | [],_,e,he=>by simp at he
 |x::es,h,e,he=>by
  have h:Bool.rec (motive:=fun _=>Bool) false (Oh since es) (Nat.blt x.born since)=true:=h;cases hb:Nat.blt x.born since with
  |false=>rw[hb]at h;cases h
  |true =>
   rw[hb]at h;rcases List.mem_cons.1 he with rfl|he
   ·exact av hb
   ·exact DL h e he
theorem ny {seen:List Nat}{z:Rs}{kk:ME->Rs}:∀{es:List ME}{sm:Bool},pQ seen es z kk sm=.ok ->
  (∀e∈es,seen.contains e.born=false->kk e=.ok)/\(sm=false->(∀e∈es,seen.contains e.born=true)->z=.ok)
 | [],sm,h=>⟨fun e he=>by simp at he,fun hs _=>by subst hs;exact h⟩
 |x::es,sm,h=>by
  have h:Bool.rec (motive:=fun _=>Rs) (Og (kk x) (pQ seen es z kk true)) (pQ seen es z kk sm) (QU x.born seen)=.ok:=h;cases hb:QU x.born seen with
  |true =>
   rw[hb]at h;obtain⟨h1,h2⟩:=ny h;rw[xM]at hb;refine⟨fun e he hn=>?_,fun hs ha=>h2 hs fun e he=>ha e (zaa _ he)⟩;rcases List.mem_cons.1 he with rfl|he
   ·rw[hb]at hn;cases hn
   ·exact h1 e he hn
  |false =>
   rw[hb]at h;obtain⟨h0,h⟩:=KM h;obtain⟨h1,h2⟩:=ny h;rw[xM]at hb;refine⟨fun e he hn=>?_,fun hs ha=>by rw[ha x (zac ..)]at hb;cases hb⟩;rcases List.mem_cons.1 he with rfl|he
   ·exact h0
   ·exact h1 e he hn
theorem FT {t:TypeId}{x:Operand}(ho:o.op=.range t x)(h:(BQ P t (cH x)).run call tm hp nx k=.ok):jS P o tm hp nx k:=by
 unfold BQ at h;split at h
 ·rename_i kt et hu;obtain⟨v,h,hv⟩:=aM h;cases v with
  |map m =>
   have h:hp.gw m (.bad 263) (fun o=>oF o fun es c=>newObj hp nx (.iter m c [] c) fun id hp nx=>k (.ptr id 0) hp nx)=.ok:=h;obtain⟨ob,hob,h⟩:=dt h;obtain⟨es,c,rfl,g⟩:=rb h;rw[cW]at g;refine (GU.new (x:=.iter m c [] c) rfl (fun _ _ h=>by cases h) (fun B w0 ι nt a w ha hc hb hs=>?_)).to g;obtain⟨E,h1,h2⟩:=hc.obj _ _ hob;refine⟨.mapIter (some (ι.aS m)) c #[] c,?_,?_⟩
   ·simp only[execOp,ho,hv ι nt a ha,ak,Instr.range,Sem.run_bind,ay hu,Result.andThen_ok,cq h1,Sem.run_pure];rw[hb,hs];rfl
   ·exact⟨by rw[hb];exact bO _ _,hs⟩
  |_=>cases h
 ·cases h
theorem HH {it:Operand}(ho:o.op=.next it false)(h:(MY (cH it)).run call tm hp nx k=.ok):jS P o tm hp nx k:=by
 obtain⟨v,h,hv⟩:=aM h;obtain⟨id,off,rfl,g⟩:=gW h;obtain⟨h0,g⟩:=aJ g;have h0:=ai h0;subst h0;obtain⟨ob,hob,g⟩:=dt g;obtain⟨m,since,seen,at',rfl,g1⟩:=ue g;obtain⟨ob,hom,g2⟩:=dt g1;obtain⟨es,c,rfl,g3⟩:=rb g2;obtain⟨hq,g4⟩:=aJ g3;rw[za]at hq;have hold:=DL hq.1;have hsc:=aK hq.2;obtain⟨hl,hz⟩:=ny g4;intro B w0 nt a w ι hs G hn;have hcore:=fun ι' hι=>hs.2 ι' hι;obtain⟨t1,c1⟩:=hcore ι (al.refl _ _);obtain⟨i1,i2⟩:=c1.obj _ _ hob;obtain⟨E,m1,m2⟩:=c1.obj _ _ hom
 have hE:∀ι',al nx ι ι'->E.toList=es.map (dP ι'):=fun ι' hι=>by
  obtain⟨E',m1',m2'⟩:=(hcore ι' hι).2.obj _ _ hom;have hb:=(hι m (hs.1.lt _ _ hom)).1;rw[hb,m1]at m1';cases m1';exact m2'
 have hrun:(execOp a.eval o).run P w=((Instr.next (.pointer (some ⟨ι.aS id,0,none⟩)) false o.type).run P w).andThen fun v w=>.ok (.value v) w:=by
  simp only[execOp,ho,hv ι nt a t1,ak,i2,zaq,Sem.run_bind,Sem.run_pure]
 have hval:∀ι',al nx ι ι'->∀e∈es,ak ι' e.key=ak ι e.key/\ak ι' e.val=ak ι e.val:=by
  intro ι' hι e he;have h1:=hE ι' hι;rw[m2]at h1;have:=List.map_inj_left.1 h1 e he;simp only[dP,MapEntry.mk.injEq]at this;exact⟨this.1.symm,this.2.1.symm⟩
 rcases run_next_at (P:=P) w o.type (ι.aS id) (ι.aS m) since at' seen.reverse.toArray E c i1 m1 (fun x hx=>by
   rw[m2]at hx;obtain⟨e,he,rfl⟩:=List.mem_map.1 hx
   exact hold e he) hsc with ⟨hleft,hr⟩|⟨e,he,w1,hw1,hr⟩
 ·refine .inl ⟨.tuple #[.bool false],w,.inl (by rw[hrun,hr];rfl),hn (.dC [.bool false]) hp nx ι _ w (hz rfl fun e he=>?_) hs.1 (zad _) (al.refl _ _) fun ι' hι=>⟨(hcore ι' hι).2,by simp[ak,ao]⟩⟩;have hem:leftOf E seen.reverse.toArray=#[]:=Array.eq_empty_of_size_eq_zero hleft;unfold leftOf at hem;rw[Array.filter_eq_empty_iff]at hem;have:=hem (dP ι e) (by rw[<-zeh,m2];exact List.mem_map.2 ⟨e,he,rfl⟩);simpa [dP] using this
 ·unfold leftOf at he;rw[zeh,Array.mem_filter]at he;obtain⟨he1,he2⟩:=he;rw[<-zeh,m2]at he1;obtain⟨e',he',rfl⟩:=List.mem_map.1 he1;have hns:seen.contains e'.born=false:=by simpa [dP] using he2
  have hk:=hl e' he' hns;rw[Tr.cz]at hk;have hw1h:w1.heap=w.heap:=by rcases hw1 with rfl|rfl<;>rfl
  refine .inl ⟨_,_,.inl (by rw[hrun,hr];rfl),hn (.dC [.bool true,e'.key,e'.val]) _ nx ι _ _ hk (qk hs.1 hob rfl (fun _ _ h=>by cases h) rfl (fun _ _ h=>by cases h)) (zad _) (al.refl _ _) fun ι' hι=>?_⟩;obtain⟨t2,c2⟩:=hcore ι' hι;have hbi:=(hι id (hs.1.lt _ _ hob)).1;have hbm:=(hι m (hs.1.lt _ _ hom)).1;obtain⟨q1,q2⟩:=hval ι' hι e' he';refine⟨?_,by simp only[ak,ao,dP,q1,q2]⟩;have hblk:=c2.base _ _ hob trivial;rw[hbi]at hblk;have hlt:ι.aS id<w.heap.size:=(Array.getElem?_eq_some_iff.1 i1).1
  have hoth:∀b,b≠ι'.aS id->(Go.ChangeMaps.setBlock w1 (ι.aS id) (.mapIter (some (ι.aS m)) since (seen.reverse.toArray.push (dP ι e').born) c)).heap[b]?=w.heap[b]?:=fun b hbne=>by
   show (w1.heap.setIfInBounds _ _)[b]?=_;rw[hw1h,zck (fun e=>hbne (by rw[hbi];exact e.symm))]
  refine kX hob rfl (fun _ _ h=>by cases h) rfl (fun _ _ h=>by cases h) c2 ?_ (fun k hk=>by
   show k<(w1.heap.setIfInBounds _ _).size;rw[hw1h,zdi]
   exact c2.room k hk) hoth ⟨?_,(c2.obj _ _ hob).2⟩
  ·refine c2.below.trans ⟨?_,?_,?_,?_,fun b hb'=>hoth b (fun e=>hblk (by rw[<-hbi,<-e];exact hb'))⟩
   ·rcases hw1 with rfl|rfl<;>rfl
   ·rcases hw1 with rfl|rfl<;>rfl
   ·rcases hw1 with rfl|rfl<;>rfl
   ·show w.heap.size<=(w1.heap.setIfInBounds _ _).size;rw[hw1h,zdi];exact zad _
  ·show (w1.heap.setIfInBounds _ _)[ι'.aS id]?=_;rw[hbi,hbm,hw1h];simp[hlt,dP]
theorem Ag {w:World}{b:Nat}{m:Option Nat}{s:Nat}{l:Array Nat}{c:Nat}(h:w.heap[b]?=some (.mapIter m s l c)):(getObj b).run P w=.ok (.mapIter m s l c) w:=by
 simp[getObj,Sem.run,h]
theorem Ah {b:Nat}{kk:ME->Rs}:∀{es:List ME},Hg b es kk=.ok->∃e,es.find? (fun e=>e.born==b)=some e/\kk e=.ok
 | [],h=>by cases h
 |x::es,h=>by
  have h:bV (Nat.beq x.born b) (kk x) (Hg b es kk)=.ok:=h;rw[List.find?_cons];rcases bQ h with ⟨hb,h⟩|⟨hb,h⟩
  ·have:=ai hb;exact⟨x,by rw[this];simp,h⟩
  ·obtain⟨e,h1,h2⟩:=Ah h
   have hne:(x.born==b)=false:=by
    rw[beq_eq_false_iff_ne];intro e;rw[e,zcf]at hb;cases hb
   exact⟨e,by rw[hne];exact h1,h2⟩
theorem Ai {it:Operand}(ho:o.op=.entry it)(h:(zo (cH it)).run call tm hp nx k=.ok):jS P o tm hp nx k:=by
 obtain⟨v,h,hv⟩:=aM h;obtain⟨id,off,rfl,g⟩:=gW h;obtain⟨h0,g⟩:=aJ g;have h0:=ai h0;subst h0;obtain⟨ob,hob,g⟩:=dt g;obtain⟨m,since,seen,at',rfl,g1⟩:=ue g;obtain⟨ob,hom,g2⟩:=dt g1;obtain⟨es,c,rfl,g3⟩:=rb g2;obtain⟨hq,g4⟩:=aJ g3;have hq:=ai hq;subst hq;cases seen with
 |nil=>cases g4
 |cons b seen =>
  obtain⟨e,he,g5⟩:=Ah (kk:=fun e=>k (.dC [e.key,e.val]) hp nx) g4;refine dF.to ⟨_,g5,fun B w0 ι nt a w ha hc=>?_⟩;obtain⟨i1,i2⟩:=hc.obj _ _ hob;obtain⟨E,m1,m2⟩:=hc.obj _ _ hom
  have hf:E.find? (fun x=>x.born==b)=some (dP ι e):=by
   rw[<-Array.find?_toList,m2,List.find?_map];show (es.find? (fun e=>e.born==b)).map _=_;rw[he];rfl
  have hb:(seen.reverse++[b]).toArray.back?=some b:=by simp
  have i1:w.heap[ι.aS id]?=some (.mapIter (some (ι.aS m)) since (seen.reverse++[b]).toArray c):=by rw[i1,List.reverse_cons]
  simp only[execOp,ho,hv ι nt a ha,ak,i2,zaq,Instr.entry,Sem.run_bind,Ag i1,cq m1,Result.andThen_ok,hb,bne_self_eq_false,zag,if_false,hf,Sem.run_pure];simp[ao,dP]
end
end Go.aI
